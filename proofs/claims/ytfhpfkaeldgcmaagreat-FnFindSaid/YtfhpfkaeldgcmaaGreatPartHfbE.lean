/-
  SEVERAL TEXTS IN ONE (merged by program): contracts and models, each with its own heading.
-/
import Derived.Test.YtfhpfkaeldgcmaaGreatPartHfbD
set_option linter.unusedSimpArgs false
set_option linter.unusedVariables false
namespace Go.Ab
def akA(T:List TypeId):Op->Bool
 | .call {callee:=.value _,args:=_,argTypes:=ts}=> !(ts.toList.all fun t=>T.all fun u=> !(t==u))
 |_=>false
def sw(T:List TypeId)(R:Array Oper):Md:=fun op=>match yH R 0 op with
 |0=>if akA T op then 3 else 0
 |m=>m
def Dt:V->Option Key
 | .c (.ptr k _)=>some k
 | .c (.kR k _ _)=>some k
 | .c (.iJ k)=>some k
 | .c (.mp k)=>some k
 | .c (.xp k _ _)=>some k
 | .c (.xq k _ _ _ _ _)=>some k
 |_=>none
theorem NT{v:V}{k:Key}(h:Hu v k):Dt v=some k:=by
 rcases h with⟨_,rfl⟩|⟨_,_,rfl⟩|rfl|rfl|⟨_,_,rfl⟩|⟨_,_,_,_,_,rfl⟩<;>rfl
def Xq:Key->Key->Bool
 |(0,a),(0,b)=>a !=b
 |(0,_),(_+1,_)=>true
 |(_+1,_),(0,_)=>true
 |_,_=>false
theorem adv{k k':Key}(h:Xq k k'=true):k≠k':=by
 rintro rfl;obtain⟨l,j⟩:=k;cases l<;>simp[Xq] at h
def Xr(v w:V):Bool:=match Dt v,Dt w with
 |some k,some k'=>Xq k k'
 |_,_=>true
def Py:Op->List Operand
 | .store _ a _=>[a]
 | .call {callee:=.value _,args:=BN,argTypes:=_}=>BN.toList
 |_=>[]
def H7(R:Array Oper)(i:Nat)(x:Oper)(j:Nat)(y:Oper):Bool:=jv y.op||(match x.op with
 | .store _ _ _=>true
 | .call {callee:=.value _,args:=_,argTypes:=_}=>true
 |_=>false)&&(Py x.op).all (settled R i)&&y.op.operands.toList.all (settled R j)
def F8(T:List TypeId)(R:Array Oper)(p i j:Nat)(x y:Oper):Bool:= !(x.apart R y)||(!(decide (j=p))&&((fJ (sw T R) x.op&&fJ (sw T R) y.op)||(j6 (sw T R) x.op&& !(H7 R i x j y))||(j6 (sw T R) y.op&& !(H7 R j y i x))))
def Ba(T:List TypeId)(R:Array Oper)(N p:Nat):Bool:=FT (sw T R) R p&&
 (List.range R.size).all fun j=>
   (match R[j]? with
    |some o=>o.after.toList.all (fun e=> !Region.binds .any e||decide (e.on<j))&&(match o.dst with|some d=>decide (d<N)|none=>true)
    |none=>true)&&
   (List.range j).all fun i=>
     match R[i]?,R[j]? with
     |some x,some y=>((masks R.toList []).getD j 0).testBit i|| !(F8 T R p i j x y)
     |_,_=>true
def amu(T:List TypeId)(R:Array Oper)(N:Nat):Nat:=if Ba T R N R.size then R.size else((List.range R.size).find? fun p=>Jp R p&&Ba T R N p).getD R.size
def U8(T:List TypeId)(R:Array Oper)(N:Nat):Bool:=Ba T R N (amu T R N)
def Pz(E:Md)(R:Array Oper)(tm:List (Nat×V)):Bool:=
 (List.range R.size).all fun i=>match R[i]? with
   |some x=> !(j6 E x.op)||(Py x.op).all fun a=>(List.range R.size).all fun j=>match R[j]? with
     |some y=>rJ R i j||fJ E y.op||jv y.op||Wj y.op||y.op.operands.toList.all (fun z=>Xr (ev tm a) (ev tm z))
     |none=>true
   |none=>true
def MX(vs:List V)(S S':Store):Prop:=∀k,(∃v∈vs,Hu v k)\/bA S' k=bA S k
def Eo(T:List TypeId)(R:Array Oper)(op:Op)(tm:List (Nat×V))(S S':Store):Prop:=match op with
 | .call {callee:=.value x,args:=BN,argTypes:=ts}=>sw T R (.call {callee:=.value x,args:=BN,argTypes:=ts})=3->MX (Dp tm BN.toList) S S'
 |_=>True
section
variable {P:Program} {N:Nat} {S:Store} {s:St} {tm:List (Nat×V)} {T:List TypeId} {R:Array Oper}
def yL(P:Program)(T:List TypeId)(R:Array Oper):List Oper->St->(St->Prop)->Prop
 |[],s,K=>K s
 |o::os,s,K=>nY P (sw T R) R o s fun s'=>Eo T R o.op s.tm s.st s'.st/\yL P T R os s' K
theorem aaj{op:Op}(h:2<=sw T R op):sw T R op=3\/(List.range R.size).all (fun i=>match R[i]? with
 |some o=>(yY op !=yY o.op)||MG R i
 |none=>true)=true:=by
 unfold sw at h ⊢;split at h
 ·rename_i e;split at h
  ·rename_i hc;left;rw[if_pos hc]
  ·omega
 ·rename_i m hm;right;unfold yH at h;split at h
  ·rename_i hq;exact hq
  ·omega
theorem adw{o:Oper}{i j:Nat}(ho:R[i]? =some o)(hj:j<R.size)(hij:i≠j)(h:(List.range R.size).all (fun i=>match R[i]? with
 |some o'=>(yY o.op !=yY o'.op)||MG R i
 |none=>true)=true):rJ R i j=true:=by
 have hi:i<R.size:=(Array.getElem?_eq_some_iff.1 ho).1;have h1:=List.all_eq_true.1 h i (List.mem_range.2 hi);rw[ho] at h1;simp only[bne_self_eq_false,Bool.false_or] at h1;have h2:=List.all_eq_true.1 h1 j (List.mem_range.2 hj);unfold rJ;have hne:¬j=i:=fun e=>hij e.symm;simp only[hne,decide_false,Bool.false_or] at h2;by_cases e:i<j
 ·rw[if_pos e];rwa [if_neg (by omega)] at h2
 ·rw[if_neg e];rwa [if_pos (by omega)] at h2
theorem aak{o:Oper}{s s':St}{v:V}(ht:lH P (sw T R) R o s v s')(hf:Eo T R o.op s.tm s.st s'.st)(hc:jv o.op=true)(hm:sw T R o.op=3){k:Key}
 (hk:∀a∈Py o.op,∀k',Dt (ev s.tm a)=some k'->k'≠k):bA s'.st k=bA s.st k:=by
 obtain⟨dst,op,ty,pos,after,guard⟩:=o
 cases op with
 |call c=>
  obtain⟨yV,args,ts⟩:=c
  cases yV with
  |value f=>
   rcases hf hm k with⟨v,hv,hr⟩|h
   ·obtain⟨a,ha,rfl⟩:=List.mem_map.1 hv;exact absurd rfl (hk a ha k (NT hr))
   ·exact h
  |_=>cases hc
 |_=>cases hc
theorem Xt{v w:V}(h:Xr v w=true){k k':Key}(hv:Dt v=some k')(hw:Hu w k):k'≠k:=by
 unfold Xr at h;rw[hv,NT hw] at h;exact adv h
theorem agC{st:Nat->St}{vs:Nat->V}{p:Nat}(hok:Ba T R N p=true)
 (hF:∀i,i<R.size->∃o,R[i]? =some o/\lH P (sw T R) R o (st i) (vs i) (st (i+1))/\Eo T R o.op (st i).tm (st i).st (st (i+1)).st)(hl:Pz (sw T R) R (st R.size).tm=true):Ky (sw T R) R N st p:=by
 unfold Ba at hok;rw[Bool.and_eq_true] at hok;have xK:=MI hok.1;obtain⟨hed,h2⟩:=Ef (f:=fun i j x y=>F8 T R p i j x y) hok.2
 have hT:∀i,i<R.size->∃o,R[i]? =some o/\lH P (sw T R) R o (st i) (vs i) (st (i+1)):=fun i hi=>by
  obtain⟨o,a,b,_⟩:=hF i hi;exact⟨o,a,b⟩
 refine⟨?_,?_,?_,?_,xK⟩
 ·intro i o e ho he hb;have h2:=hed i o ho;simp only[Bool.and_eq_true] at h2;have h3:=List.all_eq_true.1 h2.1 e (by simpa using he);simpa [hb] using h3
 ·intro i o ho d hd;have h2:=hed i o ho;simp only[Bool.and_eq_true,hd] at h2;simpa using h2.2
 ·intro i j x y hij hx hy hc;rcases h2 i j x y hij hx hy with h|h
  ·exact .inl h
  ·unfold F8 at h;unfold lY at hc;rw[Bool.or_eq_false_iff,Bool.not_eq_false'] at h;rw[h.1] at hc;simp only[Bool.not_true,Bool.false_or] at hc;by_cases e:j=p
   ·exact .inr ⟨e,(Bool.and_eq_true _ _▸hc).1,h.1⟩
   ·have h3:=h.2;simp only[e,decide_false,Bool.not_false,Bool.true_and,Bool.or_eq_false_iff] at h3;rw[hc] at h3;cases h3.1.1
 ·intro i j x o hij hx ho hs hD hc
  have hjp:j≠p:=fun e=>by
   subst e;have:=(uf (E:=sw T R) (xK o ho).1).1;rw[hD] at this;cases this
  have NM:i≠p:=fun e=>by
   subst e;have:=(uf (E:=sw T R) (xK x hx).1).2.1;rw[hs] at this;cases this
  cases hb:rJ R i j with
  |true=>exact .inl rfl
  |false=>
   refine .inr ?_;rintro k ⟨hmv,z,hz,hk⟩;have hi:i<R.size:=(Array.getElem?_eq_some_iff.1 hx).1;have hj:j<R.size:=(Array.getElem?_eq_some_iff.1 ho).1
   have hlo:H7 R i x j o=true:=by
    unfold rJ at hb;by_cases e:i<j
    ·rw[if_pos e] at hb;rcases h2 i j x o e hx ho with h|h
     ·rw[hb] at h;cases h
     ·simp only[F8,hjp,decide_false,Bool.not_false,hs,Bool.true_and,Bool.or_eq_false_iff,Bool.not_eq_false'] at h;exact h.2.1.2
    ·rw[if_neg e] at hb;rcases h2 j i o x (by omega) ho hx with h|h
     ·rw[hb] at h;cases h
     ·simp only[F8,NM,decide_false,Bool.not_false,hs,Bool.true_and,Bool.or_eq_false_iff,Bool.not_eq_false'] at h;exact h.2.2
   unfold H7 at hlo;rw[hc,Bool.false_or,Bool.and_eq_true,Bool.and_eq_true] at hlo;obtain⟨⟨hop,hsa⟩,hsy⟩:=hlo
   have hz':z∈o.op.operands.toList:=by simpa using hz
   have hsz:=List.all_eq_true.1 hsy z hz';have h1:=List.all_eq_true.1 hl i (List.mem_range.2 hi);rw[hx] at h1;simp only[hs,Bool.not_true,Bool.false_or] at h1
   have key:∀a∈Py x.op,∀k',Dt (ev (st i).tm a)=some k'->k'≠k:=fun a ha k' hk'=>by
    have h3:=List.all_eq_true.1 h1 a ha;have h4:=List.all_eq_true.1 h3 j (List.mem_range.2 hj);rw[ho] at h4;simp only[hb,hD,hc,hmv,Bool.false_or] at h4;have h5:=List.all_eq_true.1 h4 z hz';rw[zY hT (by omega) (List.all_eq_true.1 hsa a ha),zY hT (by omega) hsz] at h5;exact Xt h5 hk' hk
   obtain⟨x',hx',ht,hf⟩:=hF i hi;rw[hx] at hx';cases hx';split at hop
   ·rename_i t a y e;refine IG e ht fun k' hk'=>key a (by rw[e];exact List.mem_singleton.2 rfl) k' ?_;rcases hk' with⟨_,h⟩|⟨_,_,h⟩|⟨_,_,_,_,_,h⟩<;>rw[h]<;>rfl
   ·rename_i f BN ts e
    have hcv:jv x.op=true:=by rw[e];rfl
    have h2m:2<=sw T R x.op:=by
     unfold j6 at hs
     have hns:xU x.op=false:=by rw[e];rfl
     rw[hns,Bool.false_or,Bool.and_eq_true,decide_eq_true_eq] at hs;exact hs.1
    rcases aaj h2m with h3|h3
    ·exact aak ht hf hcv h3 key
    ·rw[adw hx hj hij h3] at hb;cases hb
   ·cases hop
theorem TV{id:Nat}{Q:Exit->St->Prop}{s:St}(fu:P.follows .mixedOrders=true)(hok:U8 T R N=true)(h:yL P T R R.toList s (fun s'=>Pz (sw T R) R s'.tm=true/\Q .normal s')):AW P N (.region id R true) Q s:=by
 obtain⟨st,vs,h0,hK,hT⟩:=FW (F:=fun o s s'=>Eo T R o.op s.tm s.st s'.st) (D:=fun os s=>yL P T R os s (fun s'=>Pz (sw T R) R s'.tm=true/\Q .normal s')) (fun _ h=>h) (fun o os s h=>by
  obtain⟨v,s',a,b⟩:=IE h
  exact⟨v,s',a,b⟩) R.size 0 (by omega) s h
 have hT':=fun i hi=>hT i (Nat.zero_le i) hi;refine AR (vs:=vs) fu h0 hK.2 (fun i hi=> ?_) (agC hok hT' hK.1);obtain⟨o,a,b,_⟩:=hT' i hi;exact⟨o,a,b⟩
def KQ(E:Md)(R:Array Oper)(K:St->Prop)(s:St):Prop:=Pz E R s.tm=true/\K s
@[congr] theorem aif {E:Md} {R:Array Oper} {K:St->Prop} {s s':St} (h2:s=s'):KQ E R K s=KQ E R K s':=by rw[h2]
def Du(P:Program)(T:List TypeId)(R:Array Oper)(os:List Oper)(K:St->Prop)(s:St):Prop:=yL P T R os s K
def KR(P:Program)(T:List TypeId)(R:Array Oper)(op:Op)(tm:List (Nat×V))(S:Store)(os:List Oper)(K:St->Prop)(s':St):Prop:=Eo T R op tm S s'.st/\Du P T R os K s'
@[congr] theorem ajB {os:List Oper} {s s':St} {K:St->Prop} (h2:s=s'):yL P T R os s K=yL P T R os s' K:=by rw[h2]
@[congr] theorem aii {os:List Oper} {s s':St} {K:St->Prop} (h2:s=s'):Du P T R os K s=Du P T R os K s':=by rw[h2]
@[congr] theorem ajC {op:Op} {os:List Oper} {s s':St} {K:St->Prop} (h2:s=s'):KR P T R op tm S os K s=KR P T R op tm S os K s':=by rw[h2]
theorem aal{K:St->Prop}:yL P T R [] ⟨tm,S⟩ K=K ⟨tm,S⟩:=rfl
theorem Xu{o:Oper}{os:List Oper}{K:St->Prop}:yL P T R (o::os) ⟨tm,S⟩ K=nY P (sw T R) R o ⟨tm,S⟩ (KR P T R o.op tm S os K):=rfl
theorem Xv{K:St->Prop}:Du P T R [] K ⟨tm,S⟩=K ⟨tm,S⟩:=rfl
theorem TW{o:Oper}{os:List Oper}{K:St->Prop}:Du P T R (o::os) K ⟨tm,S⟩=nY P (sw T R) R o ⟨tm,S⟩ (KR P T R o.op tm S os K):=rfl
theorem adx{op:Op}{os:List Oper}{K:St->Prop}{tm':List (Nat×V)}{S':Store}:KR P T R op tm S os K ⟨tm',S'⟩=(Eo T R op tm S S'/\Du P T R os K ⟨tm',S'⟩):=rfl
theorem aam{vs:List V}:MX vs S S=True:=by simp[MX]
theorem ady{vs:List V}{k:Key}{off:Nat}{x:Obj}:MX (.c (.ptr k off)::vs) S (bq S k x)=True:=by
 refine eq_true fun k'=> ?_;by_cases e:k=k'
 ·subst e;exact .inl ⟨_,List.mem_cons_self,.inl ⟨_,rfl⟩⟩
 ·exact .inr (eZ _ _ _ _ e)
theorem NU{vs:List V}{l j off:Nat}{fr:List Obj}{x:Obj}:MX (.c (.ptr (1+l,j) off)::vs) (fr::S) (fr::bq S (l,j) x)=True:=by
 have:=ady (S:=fr::S) (vs:=vs) (k:=(1+l,j)) (off:=off) (x:=x)
 rwa [ak] at this
theorem aan{vs:List V}{l j off:Nat}{fr:List Obj}{x y:Obj}:MX (.c (.ptr (1+l,j) off)::vs) (fr::bq S (l,j) x) (fr::bq S (l,j) y)=True:=by
 have:=NU (S:=bq S (l,j) x) (vs:=vs) (l:=l) (j:=j) (off:=off) (fr:=fr) (x:=y)
 rwa [ah] at this
theorem aij{p:Prop}:(p->True)=True:=by simp
def mI(P:Program)(N:Nat)(T:List TypeId):Code->(Exit->St->Prop)->St->Prop
 | .seq x y,Q,s=>mI P N T x (jP (mI P N T y Q) Q) s
 | .region _ R true,Q,s=>yL P T R R.toList s (KQ (sw T R) R (Q .normal))
 | .region id R false,Q,s=>CW P N (.region id R false) Q s
 | .cond c x y,Q,s=>yK (ev s.tm c) (mI P N T x Q) (mI P N T y Q) s
 | .block id c,Q,s=>mI P N T c (wP id Q) s
 | .exit id,Q,s=>CW P N (.exit id) Q s
 | .ret,Q,s=>CW P N .ret Q s
 | .skip,Q,s=>CW P N .skip Q s
 | .loop c,Q,s=>CW P N (.loop c) Q s
 |_,_,_=>False
def nZ(T:List TypeId)(N:Nat):Code->Bool
 | .seq x y=>nZ T N x&&nZ T N y
 | .region _ R true=>U8 T R N
 | .cond _ x y=>nZ T N x&&nZ T N y
 | .block _ c=>nZ T N c
 | .loop _=>true
 |c=>codeOk N c
theorem nT(fu:P.follows .mixedOrders=true):∀(c:Code)(Q:Exit->St->Prop)(s:St),nZ T N c=true->mI P N T c Q s->AW P N c Q s
 | .seq x y,Q,s,ok,h=>by
   simp only[nZ,Bool.and_eq_true] at ok;refine Qu (AW.mono (nT fu x _ s ok.1 h) fun e s' h'=> ?_)
   cases e with
   |normal=>exact nT fu y Q s' ok.2 h'
   |_=>exact h'
 | .region _ R true,Q,s,ok,h=>TV fu ok h
 | .region id R false,Q,s,ok,h=>jG fu _ Q s ok h
 | .cond c x y,Q,s,ok,h=>by
   simp only[nZ,Bool.and_eq_true] at ok;simp only[mI,yK] at h;split at h
   ·rename_i b hb;exact ME hb (fun e=>nT fu x Q s ok.1 (h.1 e)) (fun e=>nT fu y Q s ok.2 (h.2 e))
   ·exact h.elim
 | .block id c,Q,s,ok,h=>Jm (nT fu c _ s ok h)
 | .exit id,Q,s,ok,h=>jG fu _ Q s ok h
 | .ret,Q,s,ok,h=>jG fu _ Q s ok h
 | .skip,Q,s,ok,h=>jG fu _ Q s ok h
 | .loop c,Q,s,ok,h=>by
   rw[mI,MS] at h;exact h
 | .rangeFunc _ _ _ _,Q,s,ok,h=>h.elim
 | .scope _,Q,s,ok,h=>h.elim
 | .label _,Q,s,ok,h=>h.elim
 | .goto _,Q,s,ok,h=>h.elim
 | .refuse _,Q,s,ok,h=>h.elim
theorem agD{x y:Code}{Q:Exit->St->Prop}:mI P N T (.seq x y) Q s=mI P N T x (jP (mI P N T y Q) Q) s:=by rw[mI]
theorem adz{id:Nat}{l:List Oper}{Q:Exit->St->Prop}:mI P N T (.region id ⟨l⟩ true) Q s=yL P T ⟨l⟩ l s (KQ (sw T ⟨l⟩) ⟨l⟩ (Q .normal)):=by rw[mI]
theorem Xw{id:Nat}{l:List Oper}{Q:Exit->St->Prop}:mI P N T (.region id ⟨l⟩ false) Q s=CW P N (.region id ⟨l⟩ false) Q s:=by rw[mI]
theorem adA{c:Operand}{x y:Code}{Q:Exit->St->Prop}:mI P N T (.cond c x y) Q s=yK (ev s.tm c) (mI P N T x Q) (mI P N T y Q) s:=by rw[mI]
theorem aao{id:Nat}{c:Code}{Q:Exit->St->Prop}:mI P N T (.block id c) Q s=mI P N T c (wP id Q) s:=by rw[mI]
theorem adB{id:Nat}{Q:Exit->St->Prop}:mI P N T (.exit id) Q s=CW P N (.exit id) Q s:=by rw[mI]
theorem agE{Q:Exit->St->Prop}:mI P N T .ret Q s=CW P N .ret Q s:=by rw[mI]
theorem adC{Q:Exit->St->Prop}:mI P N T .skip Q s=CW P N .skip Q s:=by rw[mI]
theorem adD{c:Code}{Q:Exit->St->Prop}:mI P N T (.loop c) Q s=CW P N (.loop c) Q s:=by rw[mI]
theorem Jy{ι:Type}{c:Code}{Q:Exit->St->Prop}(T:List TypeId)(fu:P.follows .mixedOrders=true)(hok:nZ T N c=true)(ts:List Nat)(f:ι->List V)(g:ι->Store)(p:ι->Prop)(μ:ι->Nat)(i0:ι)
 (h1:ts.map (look s.tm)=f i0)(h2:s.st=g i0)(h3:p i0)
 (round:∀i,p i->mI P N T c (jP (Inv N ts f g p μ i) Q) ⟨jQ ts (f i),g i⟩):AW P N (.loop c) Q s:=by
 refine MF (ι:=ι) (fun i s=>∃s0,gN N s s0/\ts.map (look s0.tm)=f i/\s0.st=g i/\p i) μ i0 ⟨s,gN.refl _ _,h1,h2,h3⟩ fun i s hI=> ?_;obtain⟨s0,hg,h1,h2,h3⟩:=hI;refine l9 ?_ hg
 have hr:=(nT fu c _ _ hok (round i h3)).mono (Q':=jP (fun s'=>∃j,μ j<μ i/\∃s0,gN N s' s0/\ts.map (look s0.tm)=f j/\s0.st=g j/\p j) Q) fun e s' h=>by
  cases e with
  |normal=>
   obtain⟨j,s0,a1,a2,a3,a4,a5⟩:=h;exact⟨j,a1,s0,a2,a3,a4,a5⟩
  |_=>exact h
 obtain⟨tm,st⟩:=s0;simp only at h1 h2;subst h2;rw[<-h1] at hr;exact Wp hr fun t=>vJ _ ts t
theorem pI(T:List TypeId){f:FuncId}{fn:Func}{c:Code}{args:List V}{post:V->Store->Prop}{rs:List ResultVar}(fu:P.follows .mixedOrders=true)(hf:P.funcs[f]? =some fn)(hN:fn.ntmps=N)
 (hb:fn.body=some c) (hn:(fn.name== "runtime.NumGoroutine")=false) (hr:fn.results.toList=rs) (hl:Nat.ble args.length N=true) (hok:nZ T N c=true)
 (h:mI P N T c (Ju P rs post) ⟨kM (args.map (V.up 1)) 0,[]::S⟩):cB P f args S post:=by
 subst hN;subst hr;exact qm hf hb hn (Nat.le_of_ble_eq_true hl) (AU uh (nT fu c _ _ hok h))
end
attribute [go_sem ↓] agD adz Xw adA aao adB agE adC adD aal Xu Xv TW
attribute [go_sem] adx Eo aam NU aan aij
end Go.Ab