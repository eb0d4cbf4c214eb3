/-
  SEVERAL TEXTS IN ONE (merged by program): contracts and models, each with its own heading.
-/
import Derived.Test.YtnmjbebcebbmfaaGreatPartHibG
import Derived.Test.YtnmjbebcebbmfaaGreatPartHibH
open Go.Proofs Go.Proofs.Tryz
set_option linter.unusedSimpArgs false
set_option linter.unusedVariables false
set_option maxRecDepth 4000
set_option maxRecDepth 100000
set_option maxRecDepth 8000
namespace Go.Ab
def adf(T:List TypeId):Op->Bool
 | .call {callee:=.value _,args:=_,argTypes:=ts}=> !(ts.toList.all fun t=>T.all fun u=> !(t==u))
 | .call {callee:=.builtin .append,args:=_,argTypes:=ts}=> !(ts.toList.all fun t=>T.all fun u=> !(t==u))
 |_=>false
def oq(T:List TypeId)(R:Array Oper):Md:=fun op=>match(if isApp op then 0 else uD R 0 op) with
 |0=>if adf T op then 3 else 0
 |m=>m
def xg:V->Option Key
 | .c (.ptr k _)=>some k
 | .c (.iO k _ _)=>some k
 | .c (.eP k)=>some k
 | .c (.mp k)=>some k
 | .c (.xp k _ _)=>some k
 | .c (.xq k _ _ _ _ _)=>some k
 |_=>none
theorem IK{v:V}{k:Key}(h:BO v k):xg v=some k:=by
 rcases h with⟨_,rfl⟩|⟨_,_,rfl⟩|rfl|rfl|⟨_,_,rfl⟩|⟨_,_,_,_,_,rfl⟩<;>rfl
def QZ:Key->Key->Bool
 |(0,a),(0,b)=>a !=b
 |(0,_),(_+1,_)=>true
 |(_+1,_),(0,_)=>true
 |_,_=>false
theorem Xz{k k':Key}(h:QZ k k'=true):k≠k':=by
 rintro rfl;obtain⟨l,j⟩:=k;cases l<;>simp[QZ] at h
def Q0(v w:V):Bool:=match xg v,xg w with
 |some k,some k'=>QZ k k'
 |_,_=>true
def JG:Op->List Operand
 | .store _ a _=>[a]
 | .call {callee:=.value _,args:=nX,argTypes:=_}=>nX.toList
 | .call {callee:=.builtin .append,args:=nX,argTypes:=_}=>nX.toList.take 1
 |_=>[]
def Cj(R:Array Oper)(i:Nat)(x:Oper)(j:Nat)(y:Oper):Bool:=gJ y.op||(match x.op with
 | .store _ _ _=>true
 | .call {callee:=.value _,args:=_,argTypes:=_}=>true
 | .call {callee:=.builtin .append,args:=_,argTypes:=_}=>true
 |_=>false)&&(JG x.op).all (settled R i)&&y.op.operands.toList.all (settled R j)
def Br(T:List TypeId)(R:Array Oper)(p i j:Nat)(x y:Oper):Bool:= !(x.apart R y)||(!(decide (j=p))&&((dV (oq T R) x.op&&dV (oq T R) y.op)||(iZ (oq T R) x.op&& !(Cj R i x j y))||(iZ (oq T R) y.op&& !(Cj R j y i x))))
def xk(T:List TypeId)(R:Array Oper)(N p:Nat):Bool:=Az (oq T R) R p&&
 (List.range R.size).all fun j=>
   (match R[j]? with
    |some o=>o.after.toList.all (fun e=> !Region.binds .any e||decide (e.on<j))&&(match o.dst with|some d=>decide (d<N)|none=>true)
    |none=>true)&&
   (List.range j).all fun i=>
     match R[i]?,R[j]? with
     |some x,some y=>((masks R.toList []).getD j 0).testBit i|| !(Br T R p i j x y)
     |_,_=>true
def aeW(T:List TypeId)(R:Array Oper)(N:Nat):Nat:=if xk T R N R.size then R.size else((List.range R.size).find? fun p=>Dt R p&&xk T R N p).getD R.size
def OC(T:List TypeId)(R:Array Oper)(N:Nat):Bool:=xk T R N (aeW T R N)
def JH(E:Md)(R:Array Oper)(tm:List (Nat×V)):Bool:=
 (List.range R.size).all fun i=>match R[i]? with
   |some x=> !(iZ E x.op)||(JG x.op).all fun a=>(List.range R.size).all fun j=>match R[j]? with
     |some y=>nL R i j||dV E y.op||gJ y.op||Pp y.op||y.op.operands.toList.all (fun z=>Q0 (ev tm a) (ev tm z))
     |none=>true
   |none=>true
def G7(vs:List V)(S S':Store):Prop:=∀k,(∃v∈vs,BO v k)\/aN S' k=aN S k
def zH(T:List TypeId)(R:Array Oper)(op:Op)(tm:List (Nat×V))(S S':Store):Prop:=match op with
 | .call {callee:=.value x,args:=nX,argTypes:=ts}=>oq T R (.call {callee:=.value x,args:=nX,argTypes:=ts})=3->G7 (yM tm nX.toList) S S'
 |_=>True
section
variable {P:Program} {N:Nat} {S:Store} {s:St} {tm:List (Nat×V)} {T:List TypeId} {R:Array Oper}
def uI(P:Program)(T:List TypeId)(R:Array Oper):List Oper->St->(St->Prop)->Prop
 |[],s,K=>K s
 |o::os,s,K=>lD P (oq T R) R o s fun s'=>zH T R o.op s.tm s.st s'.st/\uI P T R os s' K
theorem Uy{E:Md}{o:Oper}{s s':St}{v:V}{nX:Array Operand}{ts:Array TypeId}(e:o.op=.call {callee:=.builtin .append,args:=nX,argTypes:=ts})(h:jA P E R o s v s'){k:Key}
 (hk:∀a∈nX.toList.take 1,∀k',xg (ev s.tm a)=some k'->k'≠k):KS k s.st s'.st:=by
 rcases h with⟨_,_,h⟩|⟨_,_,_,h⟩|⟨_,_,h,_,_⟩
 ·rw[h];cases o.dst<;>exact KS.same rfl
 ·rw[h];cases o.dst<;>exact KS.same rfl
 ·rcases qD h with h|⟨x,y,t,u,k',h1,h2,_,h4⟩
  ·exact KA (by rw[e];rfl) (by rw[e];rfl) h k
  ·rw[h1] at e;cases e;have hne:k'≠k:=hk x (by simp) k' (by rw[h2];rfl);unfold kN at h4;split at h4
   ·obtain⟨_,_,_,_,_,h6⟩:=h4;obtain⟨tm,st⟩:=s;intro ob Km;left;unfold newObj at h6;split at h6
    ·rename_i own Ω hst;rw[<-h6,iC];refine gu _ _ _ _ _ ?_;rw[<-hst];exact(dD _ _ _ _ hne).trans Km
    ·exact h6.elim
   ·exact h4.elim
theorem Uz{op:Op}(hcv:gJ op=true)(h:2<=oq T R op):oq T R op=3\/(List.range R.size).all (fun i=>match R[i]? with
 |some o=>(uU op !=uU o.op)||Gu R i
 |none=>true)=true:=by
 have hna:isApp op=false:=by
  unfold gJ at hcv;split at hcv
  ·rfl
  ·cases hcv
 unfold oq at h ⊢;simp only[hna,dd,if_false] at h ⊢;split at h
 ·rename_i e;split at h
  ·rename_i hc;left;rw[if_pos hc]
  ·omega
 ·rename_i m hm;right;unfold uD at h;split at h
  ·rename_i hq;exact hq
  ·omega
theorem XA{o:Oper}{i j:Nat}(ho:R[i]? =some o)(hj:j<R.size)(hij:i≠j)(h:(List.range R.size).all (fun i=>match R[i]? with
 |some o'=>(uU o.op !=uU o'.op)||Gu R i
 |none=>true)=true):nL R i j=true:=by
 have hi:i<R.size:=(aE.1 ho).1;have h1:=ax.1 h i (cd.2 hi);rw[ho] at h1;simp only[bne_self_eq_false,cP] at h1;have h2:=ax.1 h1 j (cd.2 hj);unfold nL;have hne:¬j=i:=fun e=>hij e.symm;simp only[hne,decide_false,cP] at h2;by_cases e:i<j
 ·rw[if_pos e];rwa [if_neg (by omega)] at h2
 ·rw[if_neg e];rwa [if_pos (by omega)] at h2
theorem UA{o:Oper}{s s':St}{v:V}(ht:jA P (oq T R) R o s v s')(hf:zH T R o.op s.tm s.st s'.st)(hc:gJ o.op=true)(hm:oq T R o.op=3){k:Key}
 (hk:∀a∈JG o.op,∀k',xg (ev s.tm a)=some k'->k'≠k):aN s'.st k=aN s.st k:=by
 obtain⟨dst,op,ty,pos,after,guard⟩:=o
 cases op with
 |call c=>
  obtain⟨uS,args,ts⟩:=c
  cases uS with
  |value f=>
   rcases hf hm k with⟨v,hv,hr⟩|h
   ·obtain⟨a,ha,rfl⟩:=cp.1 hv;exact absurd rfl (hk a ha k (IK hr))
   ·exact h
  |_=>cases hc
 |_=>cases hc
theorem Q5{v w:V}(h:Q0 v w=true){k k':Key}(hv:xg v=some k')(hw:BO w k):k'≠k:=by
 unfold Q0 at h;rw[hv,IK hw] at h;exact Xz h
theorem ZT{st:Nat->St}{vs:Nat->V}{p:Nat}(hok:xk T R N p=true)
 (hF:∀i,i<R.size->∃o,R[i]? =some o/\jA P (oq T R) R o (st i) (vs i) (st (i+1))/\zH T R o.op (st i).tm (st i).st (st (i+1)).st)(hl:JH (oq T R) R (st R.size).tm=true):Ig (oq T R) R N st p:=by
 unfold xk at hok;rw[aq] at hok;have tH:=Oa hok.1;obtain⟨hed,h2⟩:=EO (f:=fun i j x y=>Br T R p i j x y) hok.2
 have hT:∀i,i<R.size->∃o,R[i]? =some o/\jA P (oq T R) R o (st i) (vs i) (st (i+1)):=fun i hi=>by
  obtain⟨o,a,b,_⟩:=hF i hi;exact⟨o,a,b⟩
 refine⟨?_,?_,?_,?_,tH⟩
 ·intro i o e ho he hb;have h2:=hed i o ho;simp only[aq] at h2;have h3:=ax.1 h2.1 e (by simpa using he);simpa [hb] using h3
 ·intro i o ho d hd;have h2:=hed i o ho;simp only[aq,hd] at h2;simpa using h2.2
 ·intro i j x y hij hx hy hc;rcases h2 i j x y hij hx hy with h|h
  ·exact .inl h
  ·unfold Br at h;unfold jK at hc;rw[cz,ej] at h;rw[h.1] at hc;simp only[ed,cP] at hc;by_cases e:j=p
   ·exact .inr ⟨e,(aq _ _▸hc).1,h.1⟩
   ·have h3:=h.2;simp only[e,decide_false,ex,bj,cz] at h3;rw[hc] at h3;cases h3.1.1
 ·intro i j x o hij hx ho hs hD hc
  have hjp:j≠p:=fun e=>by
   subst e;have:=(pq (E:=oq T R) (tH o ho).1).1;rw[hD] at this;cases this
  have Ih:i≠p:=fun e=>by
   subst e;have:=(pq (E:=oq T R) (tH x hx).1).2.1;rw[hs] at this;cases this
  cases hb:nL R i j with
  |true=>exact .inl rfl
  |false=>
   refine .inr ?_;rintro k ⟨hmv,z,hz,hk⟩;have hi:i<R.size:=(aE.1 hx).1;have hj:j<R.size:=(aE.1 ho).1
   have hlo:Cj R i x j o=true:=by
    unfold nL at hb;by_cases e:i<j
    ·rw[if_pos e] at hb;rcases h2 i j x o e hx ho with h|h
     ·rw[hb] at h;cases h
     ·simp only[Br,hjp,decide_false,ex,hs,bj,cz,ej] at h;exact h.2.1.2
    ·rw[if_neg e] at hb;rcases h2 j i o x (by omega) ho hx with h|h
     ·rw[hb] at h;cases h
     ·simp only[Br,Ih,decide_false,ex,hs,bj,cz,ej] at h;exact h.2.2
   unfold Cj at hlo;rw[hc,cP,aq,aq] at hlo;obtain⟨⟨hop,hsa⟩,hsy⟩:=hlo
   have hz':z∈o.op.operands.toList:=by simpa using hz
   have hsz:=ax.1 hsy z hz';have h1:=ax.1 hl i (cd.2 hi);rw[hx] at h1;simp only[hs,ed,cP] at h1
   have key:∀a∈JG x.op,∀k',xg (ev (st i).tm a)=some k'->k'≠k:=fun a ha k' hk'=>by
    have h3:=ax.1 h1 a ha;have h4:=ax.1 h3 j (cd.2 hj);rw[ho] at h4;simp only[hb,hD,hc,hmv,cP] at h4;have h5:=ax.1 h4 z hz';rw[vV hT (by omega) (ax.1 hsa a ha),vV hT (by omega) hsz] at h5;exact Q5 h5 hk' hk
   obtain⟨x',hx',ht,hf⟩:=hF i hi;rw[hx] at hx';cases hx';split at hop
   ·rename_i t a y e;refine KS.same<|CS e ht fun k' hk'=>key a (by rw[e];exact dt.2 rfl) k' ?_;rcases hk' with⟨_,h⟩|⟨_,_,h⟩|⟨_,_,_,_,_,h⟩<;>rw[h]<;>rfl
   ·rename_i f nX ts e
    have hcv:gJ x.op=true:=by rw[e];rfl
    have h2m:2<=oq T R x.op:=by
     unfold iZ at hs
     have hns:tQ x.op=false:=by rw[e];rfl
     have hna:isApp x.op=false:=by rw[e];rfl
     rw[hns,hna,Bool.and_false,Bool.or_false,cP,aq,decide_eq_true_eq] at hs;exact hs.1
    rcases Uz hcv h2m with h3|h3
    ·exact KS.same (UA ht hf hcv h3 key)
    ·rw[XA hx hj hij h3] at hb;cases hb
   ·rename_i nX ts e;exact Uy e ht fun a ha k' hk'=>key a (by rw[e];exact ha) k' hk'
   ·cases hop
theorem Ny{id:Nat}{Q:Exit->St->Prop}{s:St}(fK:P.follows .mixedOrders=true)(hok:OC T R N=true)(h:uI P T R R.toList s (fun s'=>JH (oq T R) R s'.tm=true/\Q .normal s')):AW P N (.region id R true) Q s:=by
 obtain⟨st,vs,h0,hK,hT⟩:=AJ (F:=fun o s s'=>zH T R o.op s.tm s.st s'.st) (D:=fun os s=>uI P T R os s (fun s'=>JH (oq T R) R s'.tm=true/\Q .normal s')) (fun _ h=>h) (fun o os s h=>by
  obtain⟨v,s',a,b⟩:=CR h
  exact⟨v,s',a,b⟩) R.size 0 (by omega) s h
 have hT':=fun i hi=>hT i (ao i) hi;refine zi (vs:=vs) fK h0 hK.2 (fun i hi=> ?_) (ZT hok hT' hK.1);obtain⟨o,a,b,_⟩:=hT' i hi;exact⟨o,a,b⟩
def FY(E:Md)(R:Array Oper)(K:St->Prop)(s:St):Prop:=JH E R s.tm=true/\K s
@[congr] theorem abv {E:Md} {R:Array Oper} {K:St->Prop} {s s':St} (h2:s=s'):FY E R K s=FY E R K s':=by rw[h2]
def yS(P:Program)(T:List TypeId)(R:Array Oper)(os:List Oper)(K:St->Prop)(s:St):Prop:=uI P T R os s K
def FZ(P:Program)(T:List TypeId)(R:Array Oper)(op:Op)(tm:List (Nat×V))(S:Store)(os:List Oper)(K:St->Prop)(s':St):Prop:=zH T R op tm S s'.st/\yS P T R os K s'
@[congr] theorem ab7 {os:List Oper} {s s':St} {K:St->Prop} (h2:s=s'):uI P T R os s K=uI P T R os s' K:=by rw[h2]
@[congr] theorem abw {os:List Oper} {s s':St} {K:St->Prop} (h2:s=s'):yS P T R os K s=yS P T R os K s':=by rw[h2]
@[congr] theorem ab8 {op:Op} {os:List Oper} {s s':St} {K:St->Prop} (h2:s=s'):FZ P T R op tm S os K s=FZ P T R op tm S os K s':=by rw[h2]
theorem UC{K:St->Prop}:uI P T R [] ⟨tm,S⟩ K=K ⟨tm,S⟩:=rfl
theorem Q6{o:Oper}{os:List Oper}{K:St->Prop}:uI P T R (o::os) ⟨tm,S⟩ K=lD P (oq T R) R o ⟨tm,S⟩ (FZ P T R o.op tm S os K):=rfl
theorem Q7{K:St->Prop}:yS P T R [] K ⟨tm,S⟩=K ⟨tm,S⟩:=rfl
theorem Nz{o:Oper}{os:List Oper}{K:St->Prop}:yS P T R (o::os) K ⟨tm,S⟩=lD P (oq T R) R o ⟨tm,S⟩ (FZ P T R o.op tm S os K):=rfl
theorem XB{op:Op}{os:List Oper}{K:St->Prop}{tm':List (Nat×V)}{S':Store}:FZ P T R op tm S os K ⟨tm',S'⟩=(zH T R op tm S S'/\yS P T R os K ⟨tm',S'⟩):=rfl
theorem UD{vs:List V}:G7 vs S S=True:=by simp[G7]
theorem XC{vs:List V}{k:Key}{off:Nat}{x:Obj}:G7 (.c (.ptr k off)::vs) S (aP S k x)=True:=by
 refine eq_true fun k'=> ?_;by_cases e:k=k'
 ·subst e;exact .inl ⟨_,List.mem_cons_self,.inl ⟨_,rfl⟩⟩
 ·exact .inr (dD _ _ _ _ e)
theorem IL{vs:List V}{l j off:Nat}{fr:List Obj}{x:Obj}:G7 (.c (.ptr (1+l,j) off)::vs) (fr::S) (fr::aP S (l,j) x)=True:=by
 have:=XC (S:=fr::S) (vs:=vs) (k:=(1+l,j)) (off:=off) (x:=x)
 rwa [dh] at this
theorem UE{vs:List V}{l j off:Nat}{fr:List Obj}{x y:Obj}:G7 (.c (.ptr (1+l,j) off)::vs) (fr::aP S (l,j) x) (fr::aP S (l,j) y)=True:=by
 have:=IL (S:=aP S (l,j) x) (vs:=vs) (l:=l) (j:=j) (off:=off) (fr:=fr) (x:=y)
 rwa [bW] at this
theorem abx{p:Prop}:(p->True)=True:=by simp
def jU(P:Program)(N:Nat)(T:List TypeId):Code->(Exit->St->Prop)->St->Prop
 | .seq x y,Q,s=>jU P N T x (gZ (jU P N T y Q) Q) s
 | .region _ R true,Q,s=>uI P T R R.toList s (FY (oq T R) R (Q .normal))
 | .region id R false,Q,s=>CW P N (.region id R false) Q s
 | .cond c x y,Q,s=>vW (ev s.tm c) (jU P N T x Q) (jU P N T y Q) s
 | .block id c,Q,s=>jU P N T c (su id Q) s
 | .exit id,Q,s=>CW P N (.exit id) Q s
 | .ret,Q,s=>CW P N .ret Q s
 | .skip,Q,s=>CW P N .skip Q s
 | .loop c,Q,s=>CW P N (.loop c) Q s
 |_,_,_=>False
def lH(T:List TypeId)(N:Nat):Code->Bool
 | .seq x y=>lH T N x&&lH T N y
 | .region _ R true=>OC T R N
 | .cond _ x y=>lH T N x&&lH T N y
 | .block _ c=>lH T N c
 | .loop _=>true
 |c=>codeOk N c
theorem iy(fK:P.follows .mixedOrders=true):∀(c:Code)(Q:Exit->St->Prop)(s:St),lH T N c=true->jU P N T c Q s->AW P N c Q s
 | .seq x y,Q,s,ok,h=>by
   simp only[lH,aq] at ok;refine R5 (AW.mono (iy fK x _ s ok.1 h) fun e s' h'=> ?_)
   cases e with
   |normal=>exact iy fK y Q s' ok.2 h'
   |_=>exact h'
 | .region _ R true,Q,s,ok,h=>Ny fK ok h
 | .region id R false,Q,s,ok,h=>jR fK _ Q s ok h
 | .cond c x y,Q,s,ok,h=>by
   simp only[lH,aq] at ok;simp only[jU,vW] at h;split at h
   ·rename_i b hb;exact N7 hb (fun e=>iy fK x Q s ok.1 (h.1 e)) (fun e=>iy fK y Q s ok.2 (h.2 e))
   ·exact h.elim
 | .block id c,Q,s,ok,h=>Kr (iy fK c _ s ok h)
 | .exit id,Q,s,ok,h=>jR fK _ Q s ok h
 | .ret,Q,s,ok,h=>jR fK _ Q s ok h
 | .skip,Q,s,ok,h=>jR fK _ Q s ok h
 | .loop c,Q,s,ok,h=>by
   rw[jU,Ob] at h;exact h
 | .rangeFunc _ _ _ _,Q,s,ok,h=>h.elim
 | .scope _,Q,s,ok,h=>h.elim
 | .label _,Q,s,ok,h=>h.elim
 | .goto _,Q,s,ok,h=>h.elim
 | .refuse _,Q,s,ok,h=>h.elim
theorem ZU{x y:Code}{Q:Exit->St->Prop}:jU P N T (.seq x y) Q s=jU P N T x (gZ (jU P N T y Q) Q) s:=by rw[jU]
theorem XD{id:Nat}{l:List Oper}{Q:Exit->St->Prop}:jU P N T (.region id ⟨l⟩ true) Q s=uI P T ⟨l⟩ l s (FY (oq T ⟨l⟩) ⟨l⟩ (Q .normal)):=by rw[jU]
theorem Q8{id:Nat}{l:List Oper}{Q:Exit->St->Prop}:jU P N T (.region id ⟨l⟩ false) Q s=CW P N (.region id ⟨l⟩ false) Q s:=by rw[jU]
theorem XE{c:Operand}{x y:Code}{Q:Exit->St->Prop}:jU P N T (.cond c x y) Q s=vW (ev s.tm c) (jU P N T x Q) (jU P N T y Q) s:=by rw[jU]
theorem UF{id:Nat}{c:Code}{Q:Exit->St->Prop}:jU P N T (.block id c) Q s=jU P N T c (su id Q) s:=by rw[jU]
theorem XF{id:Nat}{Q:Exit->St->Prop}:jU P N T (.exit id) Q s=CW P N (.exit id) Q s:=by rw[jU]
theorem ZV{Q:Exit->St->Prop}:jU P N T .ret Q s=CW P N .ret Q s:=by rw[jU]
theorem XG{Q:Exit->St->Prop}:jU P N T .skip Q s=CW P N .skip Q s:=by rw[jU]
theorem XH{c:Code}{Q:Exit->St->Prop}:jU P N T (.loop c) Q s=CW P N (.loop c) Q s:=by rw[jU]
theorem LV{ι:Type}{c:Code}{Q:Exit->St->Prop}(T:List TypeId)(fK:P.follows .mixedOrders=true)(hok:lH T N c=true)(ts:List Nat)(f:ι->List V)(g:ι->Store)(p:ι->Prop)(μ:ι->Nat)(i0:ι)
 (h1:ts.map (look s.tm)=f i0)(h2:s.st=g i0)(h3:p i0)
 (round:∀i,p i->jU P N T c (gZ (Inv N ts f g p μ i) Q) ⟨jl ts (f i),g i⟩):AW P N (.loop c) Q s:=by
 refine Gt (ι:=ι) (fun i s=>∃s0,gQ N s s0/\ts.map (look s0.tm)=f i/\s0.st=g i/\p i) μ i0 ⟨s,gQ.refl _ _,h1,h2,h3⟩ fun i s hI=> ?_;obtain⟨s0,hg,h1,h2,h3⟩:=hI;refine lK ?_ hg
 have hr:=(iy fK c _ _ hok (round i h3)).mono (Q':=gZ (fun s'=>∃j,μ j<μ i/\∃s0,gQ N s' s0/\ts.map (look s0.tm)=f j/\s0.st=g j/\p j) Q) fun e s' h=>by
  cases e with
  |normal=>
   obtain⟨j,s0,a1,a2,a3,a4,a5⟩:=h;exact⟨j,a1,s0,a2,a3,a4,a5⟩
  |_=>exact h
 obtain⟨tm,st⟩:=s0;simp only at h1 h2;subst h2;rw[<-h1] at hr;exact Px hr fun t=>tY _ ts t
theorem rF(T:List TypeId){f:FuncId}{fn:Func}{c:Code}{args:List V}{post:V->Store->Prop}{rs:List ResultVar}(fK:P.follows .mixedOrders=true)(hf:P.funcs[f]? =some fn)(hN:fn.ntmps=N)
 (hb:fn.body=some c) (hn:(fn.name== "runtime.NumGoroutine")=false) (hr:fn.results.toList=rs) (hl:Nat.ble args.length N=true) (hok:lH T N c=true)
 (h:jU P N T c (GJ P rs post) ⟨jZ (args.map (V.up 1)) 0,[]::S⟩):bK P f args S post:=by
 subst hN;subst hr;exact uz hf hb hn (dc hl) (ES sG (iy fK c _ _ hok h))
end
attribute [go_sem ↓] ZU XD Q8 XE UF XF ZV XG XH UC Q6 Q7 Nz
attribute [go_sem] XB zH UD IL UE abx
end Go.Ab
attribute [go_sem] Go.Ab.dh Go.Ab.bW
namespace Go.Ab
def xu(x:Int):List D:=[.i .u8 x]
theorem LW(a:Int):0<=x9 .i64 a 255/\x9 .i64 a 255<=255:=by
 have h:(BitVec.ofInt IntKind.i64.bits a &&& BitVec.ofInt IntKind.i64.bits 255).toNat<=255:=by
  rw[BitVec.toNat_and];refine cx Nat.and_le_right ?_;decide
 unfold x9;rw[IntWalk.i64_in _ (by omega)];omega
structure Bytes(bs:List Int):Prop where
 len:bs.length<=1048576
 rng:∀x∈bs,0<=x/\x<=255
structure Cu(bs:List Int) where
 i:Int
 h:Int
 lo:0<=i
 hi:i<=bs.length
def cur{bs:List Int}(c:Cu bs):List C:=[.d (.sl (bs.map xu)),.d (.i .i64 c.i),.d (.i .i64 c.h)]
def hN(h:Int):Int:=IntKind.i64.wrap (IntKind.i64.wrap (h*6364136223846793005)+1442695040888963407)
def Ck(h:Int):Int:=x9 .i64 (JR .i64 (Dl .i64 (hN h) 33) (Dl .i64 (hN h) 45)) 255
def wm{bs:List Int}(c:Cu bs):Int×Cu bs:=
 if h:c.i<bs.length then(x9 .i64 (Ck c.h+bs.getD c.i.toNat 0) 255,⟨c.i+1,hN c.h,by have:=c.lo;omega,by omega⟩) else(Ck c.h,⟨c.i,hN c.h,c.lo,c.hi⟩)
theorem IQ{bs:List Int}(c:Cu bs):0<=(wm c).1/\(wm c).1<=255:=by
 unfold wm;split
 ·exact LW _
 ·exact LW _
def aD{bs:List Int}(n:Int)(c:Cu bs):Int×Cu bs:=((wm c).1.tmod n,(wm c).2)
theorem eD{bs:List Int}{n:Int}(c:Cu bs)(h:1<=n):0<=(aD n c).1/\(aD n c).1<n:=
 ⟨Int.tmod_nonneg _ (IQ c).1,Int.tmod_lt_of_pos _ (by omega)⟩
def cK{bs:List Int}(n:Int)(c:Cu bs):Bool×Cu bs:=(decide ((aD n c).1=0),(aD n c).2)
def bD{bs:List Int}(xs:List (List UInt8))(c:Cu bs):List UInt8×Cu bs:=(xs.getD (aD xs.length c).1.toNat [],(aD xs.length c).2)
theorem UG{bs:List Int}{xs:List (List UInt8)}(c:Cu bs)(h:1<=xs.length):(bD xs c).1∈xs:=by
 have:=eD (n:=xs.length) c (by omega);unfold bD
 have hi:(aD (xs.length:Int) c).1.toNat<xs.length:=by omega
 simp only[List.getD,ag hi,dn];exact ac hi
theorem UH{bs:List Int}(hB:Bytes bs)(c:Cu bs)(l j:Nat)(S:Store)(hk:aN S (l,j)=some (.box (cur c))):
 bK prog 27 [.c (.ptr (l,j) 0)] S (fun r S'=>r=.c (.d (.i .i64 (wm c).1))/\S'=aP S (l,j) (.box (cur (wm c).2))):=by
 have h0:0<=Ck c.h/\Ck c.h<=255:=LW _;have hl:=hB.len;have g:∀x:Ab.Obj,aN (aP S (l,j) x) (l,j)=some x:=fun x=>bP _ _ _ _ hk;obtain⟨i,h,lo,hi⟩:=c;simp only at h0;by_cases hlt:i<bs.length
 ·have hb:=hB.rng (bs[i.toNat]'(by omega)) (ac _);have h1:decide (i<(bs.length:Int))=true:=decide_eq_true hlt
  have e:bs.getD i.toNat 0=bs[i.toNat]'(by omega):=by simp[List.getD,(show i.toNat<bs.length by omega)]
  rw[wm,dif_pos hlt];simp only[e]
  unfold Ck hN at *
  refine zcx [.tmp 2] func27 ntmps27 ?_;simp -implicitDefEqProofs (disch:=omega) only[go_sem,hk,cur,g,h1,xu]
  (repeat(with_reducible refine And.intro ?_ ?_;focus first|omega|rfl|assumption|exact⟨_,rfl,rfl⟩|(simp;omega)|(simp;done)))
  all_goals first|exact⟨rfl,rfl⟩|rfl|omega
 ·have h1:decide (i<(bs.length:Int))=false:=decide_eq_false hlt;rw[wm,dif_neg hlt]
  unfold Ck hN at *
  refine zcx [.tmp 2] func27 ntmps27 ?_;simp -implicitDefEqProofs (disch:=omega) only[go_sem,hk,cur,g,h1,xu]
  first|done|exact⟨rfl,rfl⟩|rfl
theorem dB{bs:List Int}(hB:Bytes bs)(c:Cu bs)(l j:Nat)(S:Store)(n:Int)(hk:aN S (l,j)=some (.box (cur c)))(h1:1<=n)(h2:n<=256):
 bK prog 14 [.c (.ptr (l,j) 0),.c (.d (.i .i64 n))] S (fun r S'=>r=.c (.d (.i .i64 (aD n c).1))/\S'=aP S (l,j) (.box (cur (aD n c).2))):=by
 have hx:=IQ c;have d1:decide (n<=0)=false:=decide_eq_false (by omega);have d2:decide (n<=256)=true:=decide_eq_true h2;refine zcx [.tmp 4] func14 ntmps14 ?_;simp -implicitDefEqProofs (disch:=omega) only[go_sem,d1,d2];refine bq rfl (UH hB c (1+l) j ([]::S) (by rw[aQ];exact hk)) ?_;simp -implicitDefEqProofs (disch:=omega) only[go_sem]
 (repeat(with_reducible refine And.intro ?_ ?_;focus first|omega|rfl|assumption|exact⟨_,rfl,rfl⟩|(simp;omega)|(simp;done)))
 first|done|exact⟨rfl,rfl⟩|rfl
theorem iA{bs:List Int}(hB:Bytes bs)(c:Cu bs)(l j:Nat)(S:Store)(n:Int)(hk:aN S (l,j)=some (.box (cur c)))(h1:1<=n)(h2:n<=256):
 bK prog 24 [.c (.ptr (l,j) 0),.c (.d (.i .i64 n))] S (fun r S'=>r=.c (.d (.b (cK n c).1))/\S'=aP S (l,j) (.box (cur (cK n c).2))):=by
 refine zcx [.tmp 4] func24 ntmps24 ?_;simp -implicitDefEqProofs (disch:=omega) only[go_sem];refine bq rfl (dB hB c (1+l) j ([]::S) n (by rw[aQ];exact hk) h1 h2) ?_;simp -implicitDefEqProofs (disch:=omega) only[go_sem]
 first|done|exact⟨rfl,rfl⟩|rfl
theorem dU{bs:List Int}(hB:Bytes bs)(c:Cu bs)(l j:Nat)(S:Store)(xs:List (List UInt8))(hk:aN S (l,j)=some (.box (cur c)))(h1:1<=xs.length)(h2:xs.length<=256):
 bK prog 25 [.c (.ptr (l,j) 0),.c (.d (.sl (xs.map encS)))] S (fun r S'=>r=.c (.d (.s (bD xs c).1))/\S'=aP S (l,j) (.box (cur (bD xs c).2))):=by
 have hx:=eD (n:=xs.length) c (by omega);refine zcx [.tmp 4] func25 ntmps25 ?_;simp -implicitDefEqProofs (disch:=omega) only[go_sem,encS];refine bq rfl (dB hB c (1+l) j ([]::S) xs.length (by rw[aQ];exact hk) (by omega) (by omega)) ?_
 have hi:(aD (xs.length:Int) c).1.toNat<xs.length:=by omega
 have e:(bD xs c).1=xs[(aD (xs.length:Int) c).1.toNat]:=by simp only[bD,List.getD,ag hi,dn]
 simp -implicitDefEqProofs (disch:=omega) only[go_sem,encS]
 (repeat(with_reducible refine And.intro ?_ ?_;focus first|omega|rfl|assumption|exact⟨_,rfl,rfl⟩|(simp;omega)|(simp;done)))
 rw[e]
 first|done|exact⟨rfl,rfl⟩|rfl
def adg(h b:Int):Int:=x9 .i64 (IntKind.i64.wrap (IntKind.i64.wrap (IntKind.i64.wrap (h*131)+b)+7)) 1073741823
def Cm:List Int->Int->Int
 |[],h=>h
 |b::r,h=>Cm r (adg h b)
def vF(bs:List Int):Cu bs:=⟨0,Cm (bs.take 4000) (28803+bs.length),Int.le_refl _,by omega⟩
theorem Q9{es:List (List D)}(h:∀y∈es,∃x,y=[.i .u8 x]/\(Lit.int .u8 x).wf=true):∃xs:List Int,es=xs.map xu/\∀x∈xs,0<=x/\x<=255:=by
 induction es with
 |nil=>exact⟨[],rfl,fun x h=>by cases h⟩
 |cons y es ih=>
  obtain⟨x,rfl,hx⟩:=h y List.mem_cons_self;obtain⟨xs,rfl,hxs⟩:=ih fun z hz=>h z (List.mem_cons_of_mem _ hz);refine⟨x::xs,rfl,fun z hz=> ?_⟩;rcases du.1 hz with rfl|hz
  ·have h1:IntKind.u8.min=0:=by decide
   have h2:IntKind.u8.max=255:=by decide
   simp only[Lit.wf,aq,decide_eq_true_eq,h1,h2] at hx;exact hx
  ·exact hxs z hz
theorem XI{bs:List Int}(hB:Bytes bs)(bT:List Ab.Obj)(Ω:Store):bK prog 12 [.c (.d (.sl (bs.map xu)))] (bT::Ω) (fun r S'=>r=.c (.ptr (0,bT.length) 0)/\S'=(bT++[.box (cur (vF bs))])::Ω):=by
 have hl:=hB.len;refine Ua (rs:=[.tmp 2]) zmx func12 ntmps12 rfl rfl rfl rfl rfl ?_;simp -implicitDefEqProofs (disch:=omega) only[go_sem]
 refine bn (ι:=Nat×Int) zmx rfl [0,3,4] (fun y=>[.c (.d (.sl (bs.map xu))),.c (.d (.i .i64 y.2)),.c (.d (.i .i64 y.1))]) (fun _=>[]::bT::Ω)
  (fun y=>y.1<=bs.length/\y.1<=4000/\Cm ((bs.take 4000).drop y.1) y.2=Cm (bs.take 4000) (28803+bs.length)) (fun y=>bs.length-y.1) (0,28803+bs.length) rfl rfl ⟨ao _,ao _,by rw[cQ]⟩ ?_
 rintro⟨i,q⟩ ⟨p1,p2,p3⟩;simp only at p1 p2 p3;simp -implicitDefEqProofs (disch:=omega) only[go_sem]
 have fin:(¬i<bs.length\/¬i<4000)->(bT++[Ab.Obj.box [.d (.sl (bs.map xu)),.d (.i .i64 0),.d (.i .i64 q)]])::Ω=(bT++[.box (cur (vF bs))])::Ω:=fun hq=>by
  rw[en (by rw[bk];omega)] at p3;rw[show q=Cm (bs.take 4000) (28803+bs.length) from p3];rfl
 with_reducible refine aj (fun hb=> ?_) (fun hb=> ?_)<;>have h:=hb<;>(try simp only[wf_preprocess] at h)<;>simp -implicitDefEqProofs (disch:=omega) only[go_sem,hb]<;>(repeat(with_reducible refine And.intro ?_ ?_;focus first|omega|rfl|assumption|exact⟨_,rfl,rfl⟩|(simp;omega)|(simp;done)))
 ·with_reducible refine aj (fun hb=> ?_) (fun hb=> ?_)<;>have h:=hb<;>(try simp only[wf_preprocess] at h)<;>simp -implicitDefEqProofs (disch:=omega) only[go_sem,hb]<;>(repeat(with_reducible refine And.intro ?_ ?_;focus first|omega|rfl|assumption|exact⟨_,rfl,rfl⟩|(simp;omega)|(simp;done)))
  ·have hi:i<bs.length:=by omega
   have hb:=hB.rng bs[i] (ac hi)
   have ht:(bs.take 4000).drop i=bs[i]::(bs.take 4000).drop (i+1):=by
    rw[bh (by rw[bk];omega),List.getElem_take]
   rw[ht,Cm] at p3;simp -implicitDefEqProofs (disch:=omega) only[go_sem,xu]
   (repeat(with_reducible refine And.intro ?_ ?_;focus first|omega|rfl|assumption|exact⟨_,rfl,rfl⟩|(simp;omega)|(simp;done)))
   all_goals try omega
   exact bU (i+1,_) (by simp only;omega) rfl rfl ⟨by simp only;omega,by simp only;omega,p3⟩
  ·exact fin (.inr (by omega))
 ·exact fin (.inl (by omega))
theorem aby(bs:List Int):aT prog 4 [.c (.d (.sl (bs.map xu)))] (.c (.d (.b (decide (1048576<(bs.length:Int)))))):=fun S=>by
 refine zcx [.tmp 2] func4 ntmps4 ?_;simp -implicitDefEqProofs (disch:=omega) only[go_sem]
def F3(S:Store)(os:List Obj):Store:=match S with
 |fr::Ω=>(fr++os)::Ω
 |[]=>[]
def vG(S:Store):Nat:=match S with
 |fr::_=>fr.length
 |[]=>0
def xw(S:Store):Bool:=match S with
 |_::_=>true
 |[]=>false
theorem F4{fr:List Obj}{Ω:Store}{os:List Obj}:F3 (fr::Ω) os=(fr++os)::Ω:=rfl
theorem pQ{fr:List Obj}{Ω:Store}:vG (fr::Ω)=fr.length:=rfl
theorem NA{fr:List Obj}{Ω:Store}:xw (fr::Ω)=true:=rfl
theorem Ra{k:Key}{x:Obj}:∀{S:Store},xw (aP S k x)=xw S
 |[]=>rfl
 |fr::S=>by
  obtain⟨l,j⟩:=k;cases l<;>rfl
theorem XJ{k:Key}{x:Obj}:∀{S:Store},vG (aP S k x)=vG S
 |[]=>rfl
 |fr::S=>by
  obtain⟨l,j⟩:=k;cases l
  ·show(fr.set j x).length=fr.length
   simp
  ·rfl
def nE(P:Program)(f:FuncId)(args:List V)(S:Store)(raw:V->List Obj->Store->Prop):Prop:=
 Known P f/\∀w σ β vs,dM w σ S β->mX w σ S β args vs->
  Calls P f vs.toArray w fun e w'=>∃v r own S1 bo β1 σ',e=.returned v/\dM w' σ' (own::S1) (bo::β1)/\Keep S β S1 β1/\Step S β σ w (own::S1) (bo::β1) σ' w'/\cu w' σ' (own::S1) (bo::β1) r v/\raw r own S1
def LX(P:Program)(rs:List ResultVar)(raw:V->List Obj->Store->Prop)(e:Exit)(s:St):Prop:=
 match e with
 | .normal| .ret=>(kS P rs s).1/\match s.st with
   |own::S1=>raw (kS P rs s).2 own S1
   |[]=>False
 |_=>False
section
variable {P:Program} {N:Nat} {s:St} {S:Store}
theorem IU{f:FuncId}{fn:Func}{c:Code}{args:List V}{raw:V->List Obj->Store->Prop}(hf:P.funcs[f]? =some fn)(hb:fn.body=some c)(hn:(fn.name== "runtime.NumGoroutine")=false)
 (hl:args.length<=fn.ntmps)(h:AW P fn.ntmps c (LX P fn.results.toList raw) ⟨jZ (args.map (V.up 1)) 0,[]::S⟩):nE P f args S raw:=by
 refine⟨⟨fn,hf,hn,by simp[hb]⟩,fun w σ β vs hS hargs=> ?_⟩;refine calls_of_wp hf hb ?_;have hlen:vs.length=args.length:=hargs.1.symm
 have Kw:iq fn.ntmps ⟨jZ (args.map (V.up 1)) 0,[]::S⟩ {tmps:=vs.toArray++Array.replicate (fn.ntmps-vs.toArray.size) undef,defers:=[]} w σ ([]::β):=by
  refine⟨by simp;omega,rfl,hS.Yp,fun t=> ?_⟩;show cu w σ ([]::S) ([]::β) (look (jZ (args.map (V.up 1)) 0) t) _;rw[vU,if_pos (ao _),Nat.sub_zero,aV]
  cases ha:args[t]? with
  |none=>exact trivial
  |some x=>
   obtain⟨v,hv,hr⟩:=hargs.2 t x ha;have ht:=(ai.1 hv).1
   have:(vs.toArray++Array.replicate (fn.ntmps-vs.toArray.size) undef).getD t undef=v:=by
    rw[cS,cw (by simpa using ht)];simp[hv]
   rw[this];exact BM (S:=[]::S) (β:=[]::β) 1 hr
 refine wp_mono (h _ w σ ([]::β) Kw) ?_;rintro e a' w' ⟨s',σ',β',hR,hst,hkp,hq⟩
 have main:((kS P fn.results.toList s').1/\match s'.st with
  |own::S1=>raw (kS P fn.results.toList s').2 own S1
  |[]=>False)->
   a'.defers=[]/\∃v,(results fn a'.tmps).run P w'=.ok v w'/\∃v1 r own S1 bo β1 σ',Ending.returned v=Ending.returned v1/\dM w' σ' (own::S1) (bo::β1)/\Keep S β S1 β1/\Step S β σ w (own::S1) (bo::β1) σ' w'/\cu w' σ' (own::S1) (bo::β1) r v1/\raw r own S1:=by
  rintro⟨q1,q2⟩;obtain⟨v,hv,hrep⟩:=Aw (fn:=fn) hR q1;obtain⟨tm,st⟩:=s';simp only at q2;split at q2
  ·rename_i own S1;obtain⟨bo,β1,rfl,hlo⟩:=frames hR;have hst':Step ([]::S) ([]::β) σ w (own::S1) (bo::β1) σ' w':=hst;exact⟨hR.defers,v,hv,v,_,own,S1,bo,β1,σ',rfl,hR.S,hkp,⟨hst'.size,hst'.os,hst'.output,fun b hb ho=>hst'.far b hb (fun x=>ho (wD x)),hst'.near,fun b hb=>(hst'.own b hb).imp wD id⟩,hrep,q2⟩
  ·exact q2.elim
 cases e with
 |normal=>exact main hq
 |ret=>exact main hq
 |_=>exact hq.elim
def LY(P:Program)(rs:List ResultVar)(raw:V->List Obj->Store->Prop)(s:St)(r:R):Prop:=r.1/\match s.st with
 |own::S1=>raw r.2 own S1
 |[]=>False
@[congr] theorem adh {rs:List ResultVar} {raw:V->List Obj->Store->Prop} {s s':St} {r r':R} (h1:s=s') (h2:r=r'):LY P rs raw s r=LY P rs raw s' r':=by rw[h1,h2]
theorem XK{rs:List ResultVar}{raw:V->List Obj->Store->Prop}{tm:List (Nat×V)}{S:Store}:LX P rs raw .ret ⟨tm,S⟩=LY P rs raw ⟨tm,S⟩ (kS P rs ⟨tm,S⟩):=rfl
theorem NC{rs:List ResultVar}{raw:V->List Obj->Store->Prop}{tm:List (Nat×V)}{S:Store}:LX P rs raw .normal ⟨tm,S⟩=LY P rs raw ⟨tm,S⟩ (kS P rs ⟨tm,S⟩):=rfl
theorem ZW{rs:List ResultVar}{raw:V->List Obj->Store->Prop}{tm:List (Nat×V)}{own:List Obj}{S1:Store}{p:Prop}{v:V}:LY P rs raw ⟨tm,own::S1⟩ (p,v)=(p/\raw v own S1):=rfl
theorem yT{f:FuncId}{fn:Func}{c:Code}{args:List V}{raw:V->List Obj->Store->Prop}{rs:List ResultVar}(fK:P.follows .mixedOrders=true)(hf:P.funcs[f]? =some fn)(hN:fn.ntmps=N)
 (hb:fn.body=some c) (hn:(fn.name== "runtime.NumGoroutine")=false) (hr:fn.results.toList=rs) (hl:Nat.ble args.length N=true) (hok:codeOk N c=true)
 (h:CW P N c (LX P rs raw) ⟨jZ (args.map (V.up 1)) 0,[]::S⟩):nE P f args S raw:=by
 subst hN;subst hr;exact IU hf hb hn (dc hl) (jR fK c _ _ hok h)
theorem ZX(T:List TypeId){f:FuncId}{fn:Func}{c:Code}{args:List V}{raw:V->List Obj->Store->Prop}{rs:List ResultVar}(fK:P.follows .mixedOrders=true)(hf:P.funcs[f]? =some fn)(hN:fn.ntmps=N)
 (hb:fn.body=some c) (hn:(fn.name== "runtime.NumGoroutine")=false) (hr:fn.results.toList=rs) (hl:Nat.ble args.length N=true) (hok:lH T N c=true)
 (h:jU P N T c (LX P rs raw) ⟨jZ (args.map (V.up 1)) 0,[]::S⟩):nE P f args S raw:=by
 subst hN;subst hr;exact IU hf hb hn (dc hl) (iy fK c _ _ hok h)
theorem nE.mono{f:FuncId}{args:List V}{raw raw':V->List Obj->Store->Prop}(h:nE P f args S raw)(hi:∀r own S1,raw r own S1->raw' r own S1):nE P f args S raw':=
 ⟨h.1,fun w σ β vs hS hv=>(h.2 w σ β vs hS hv).mono fun e w' ⟨v,r,own,S1,bo,β1,σ',q1,q2,q3,q4,q5,q6⟩=>⟨v,r,own,S1,bo,β1,σ',q1,q2,q3,q4,q5,hi _ _ _ q6⟩⟩
end
def Ea(own:List Obj)(x:C)(z:Nat)(es:List (List D)):Prop:=(∃m,own[m]? =some (.tok z es)/\x=.bM (0,m) es)\/(x=.bF es/\∀e∈es,e.length=z)
section
variable {w:World} {σ:Nat->Nat} {own fr:List Obj} {Ω:Store} {bo bf:List Value} {bΩ:Hs}
theorem rG{S1:Store}{β1:Hs}{x:C}{z:Nat}{es:List (List D)}{v:Value}(h:Ea own x z es)(hr:fu w σ (own::S1) (bo::β1) x v):dw w σ (.sl es) v:=by
 rcases h with⟨m,h1,rfl⟩|⟨rfl,_⟩
 ·exact hr.1
 ·exact hr.1
theorem Eb{S1:Store}{β1:Hs}{x:C}{z:Nat}{es:List (List D)}{v:Value}(hS:dM w σ (own::S1) (bo::β1))(h:Ea own x z es)(hr:fu w σ (own::S1) (bo::β1) x v):
 (∀S' β',eT w σ S' β' (.tok z es) v)/\∀b,owns (.tok z es) v b->∃m,own[m]? =some (.tok z es)/\x=.bM (0,m) es/\bo[m]? =some v:=by
 rcases h with⟨m,h1,rfl⟩|⟨rfl,h2⟩
 ·obtain⟨hd,o,ho,hl⟩:=hr;rw[aJ,h1] at ho;cases ho;have hb:=(hl _ _ (.inl rfl)).2 rfl;obtain⟨hv,e1,e2⟩:=hS.obj (0,m) _ (by rw[aJ];exact h1);rw[hb] at e1;cases e1;rw[aJ] at hb;exact⟨fun _ _=>e2,fun b _=>⟨m,h1,rfl,hb⟩⟩
 ·obtain⟨hd,a,n,rfl⟩:=hr
  have hn:n=es.length:=by cases hd<;>rfl
  subst hn;refine⟨fun _ _=>⟨hd,h2,a,es.length,rfl,aw _,.inl rfl⟩,fun b hb=> ?_⟩
  cases a with
  |none=>cases hb
  |some a=>simp[owns,blk] at hb
end
def xA(cs:List C):Bool:=cs.all fun c=>match c with
 | .d _=>true
 |_=>false
theorem F5{w:World}{σ:Nat->Nat}{S S':Store}{β β':Hs}{c:C}{v:Value}(h:(match c with
 | .d _=>true
 |_=>false)=true) (hr:fu w σ S β c v):fu w σ S' β' c v:=by
 cases c<;>first|exact hr|(cases h;done)
theorem Dh{w:World}{σ:Nat->Nat}{S S':Store}{β β':Hs}{pre post:List C}{x x':C}{a:List Value}(h1:xA pre=true)(h2:xA post=true)(hr:dS w σ S β (pre++x::post) a)
 (hx:∀v,a[pre.length]? =some v->fu w σ S β x v->fu w σ S' β' x' v):dS w σ S' β' (pre++x'::post) a:=by
 refine⟨by simpa using hr.1,fun j y hy=> ?_⟩;rcases Nat.lt_trichotomy j pre.length with hj|hj|hj
 ·rw[an hj] at hy;obtain⟨v,e1,e2,e3⟩:=hr.2 j y (by rw[an hj];exact hy);exact⟨v,e1,F5 (ax.1 h1 y (cq hy)) e2,e3⟩
 ·subst hj;rw[am (aw _),cU,List.getElem?_cons_zero] at hy;cases hy;obtain⟨v,e1,e2,e3⟩:=hr.2 pre.length x (by rw[am (aw _),cU];rfl);exact⟨v,e1,hx v e1 e2,e3⟩
 ·rw[am (by omega),show j-pre.length=(j-pre.length-1)+1 by omega,df] at hy;obtain⟨v,e1,e2,e3⟩:=hr.2 j y (by rw[am (by omega),show j-pre.length=(j-pre.length-1)+1 by omega,df];exact hy);exact⟨v,e1,F5 (ax.1 h2 y (cq hy)) e2,e3⟩
section
variable {P:Program} {S S':Store} {f:FuncId} {args:List V}
theorem nE.plain{pre post:List C}{z:Nat}{es:List (List D)}(h1:xA pre=true)(h2:xA post=true)(h:nE P f args S fun r own S1=>S1=S'/\∃x,r=.agg (pre++x::post)/\Ea own x z es):
 bK P f args S fun r S1=>r=.agg (pre++ .d (.sl es)::post)/\S1=S':=by
 refine⟨h.1,fun w σ β vs hS hv=>(h.2 w σ β vs hS hv).mono fun e w' ⟨v,r,own,S1,bo,β1,σ',q1,q2,q3,q4,q5,q6,x,q7,q8⟩=> ?_⟩;subst q6 q7;obtain⟨a,rfl,hc⟩:=q5;exact⟨_,.agg (pre++ .d (.sl es)::post),S1,σ',β1,q1,q2.BN,q3,⟨q4.size,q4.os,q4.output,q4.far,q4.near,fun b hb=>q4.own b (qY hb)⟩,⟨a,rfl,Dh h1 h2 hc fun v e1 e2=>rG q8 e2⟩,rfl,rfl⟩
theorem nE.push{pre post:List C}{z:Nat}{es:List (List D)}(h1:xA pre=true)(h2:xA post=true)(ht:xw S'=true)(h:nE P f args S fun r own S1=>S1=S'/\∃x,r=.agg (pre++x::post)/\Ea own x z es):
 bK P f args S fun r S1=>r=.agg (pre++ .bM (0,vG S') es::post)/\S1=F3 S' [.tok z es]:=by
 refine⟨h.1,fun w σ β vs hS hv=>(h.2 w σ β vs hS hv).mono fun e w' ⟨v,r,own,S1,bo,β1,σ',q1,q2,q3,q4,q5,q6,x,q7,q8⟩=> ?_⟩;subst q6 q7;obtain⟨a,rfl,hc⟩:=q5;obtain⟨u,e1,e2,e3⟩:=hc.2 pre.length x (by rw[am (aw _),cU];rfl);obtain⟨k1,k2⟩:=Eb q2 q8 e2
 cases S1 with
 |nil=>cases ht
 |cons fr Ω=>
 have hd:=q2.BN
 obtain⟨bf,bΩ,rfl,hlen⟩:∃bf bΩ,β1=bf::bΩ/\bf.length=fr.length:=by
  cases β1 with
  |nil=>have:=hd.shape.1;simp at this
  |cons bf bΩ=>
   refine⟨bf,bΩ,rfl,?_⟩;obtain⟨gr,q1,q2⟩:=hd.shape.2 0 fr rfl;simp at q1;rw[q1];exact q2
 obtain⟨l1,l2,l3⟩:=hd.lay (o:=.tok z es) (h:=u) hlen (k1 _ _) fun b hb ⟨k,o,hh,f1,f2,f3⟩=>by
  obtain⟨m,g1,g2,g3⟩:=k2 b hb;have:=q2.apart (0,m) (k.1+1,k.2) _ o u hh b (by rw[aJ];exact g1) (by rw[aJ];exact g3) hb (by rw[bB];exact f1) (by rw[bB];exact f2) f3;cases this
 refine⟨_,.agg (pre++ .bM (0,vG (fr::Ω)) es::post),_,σ',_,q1,l1,q3.trans l2,⟨q4.size,q4.os,q4.output,q4.far,q4.near,fun b hb=> ?_⟩,⟨a,rfl,Dh h1 h2 hc fun v f1 f2=> ?_⟩,rfl,rfl⟩
 ·rcases l3 b hb with q|q
  ·exact q4.own b (qY q)
  ·obtain⟨m,g1,g2,g3⟩:=k2 b q;exact q4.own b ⟨(0,m),_,u,by rw[aJ];exact g1,by rw[aJ];exact g3,q⟩
 ·rw[e1] at f1;cases f1;refine⟨rG q8 e2,_,by rw[pQ];exact bL _ _ _,fun aM es' e=> ?_⟩;obtain⟨_,rfl⟩:=jP (lab:=none) e;exact⟨aw _,fun _=>by rw[pQ,<-hlen,bL]⟩
end
attribute [go_sem ↓] XK NC
attribute [go_sem] ZW F4 pQ NA Ra XJ
def kT(s:List UInt8):ah:=.mk 1 s []
def nS(s:List UInt8)(l:List ah):ah:=.mk 2 s l
def xR(s:List UInt8)(t:ah):ah:=.mk 3 s [t]
def XL(s:List UInt8):ah:=.mk 4 s []
def zI:List (List UInt8):=[[105,110,116],[98,111,111,108],[117,110,105,116]]
def xS:List (List UInt8):=[[108,105,115,116],[108,105,115,116],[98,111,120]]
def jV{bs:List Int}(vars:List (List UInt8)):Nat->Cu bs->ah×Cu bs
 |0,c=>if(aD 8 c).1<3/\0<vars.length then(kT (bD vars (aD 8 c).2).1,(bD vars (aD 8 c).2).2)
  else(nS (bD zI (aD 8 c).2).1 [],(bD zI (aD 8 c).2).2)
 |n+1,c=>if(aD 8 c).1<3/\0<vars.length then(kT (bD vars (aD 8 c).2).1,(bD vars (aD 8 c).2).2)
  else if(aD 8 c).1<5 then(nS (bD zI (aD 8 c).2).1 [],(bD zI (aD 8 c).2).2)
  else if(aD 8 c).1=5 then(nS [112,97,105,114] [(jV vars n (aD 8 c).2).1,(jV vars n (jV vars n (aD 8 c).2).2).1],(jV vars n (jV vars n (aD 8 c).2).2).2)
  else(nS (bD xS (aD 8 c).2).1 [(jV vars n (bD xS (aD 8 c).2).2).1],(jV vars n (bD xS (aD 8 c).2).2).2)
def dO(l:List (List UInt8)):Prop:=∀s∈l,s.length<=8
theorem eX{bs:List Int}{xs:List (List UInt8)}(c:Cu bs)(h:dO xs):(bD xs c).1.length<=8:=by
 by_cases h1:1<=xs.length
 ·exact h _ (UG c h1)
 ·have:xs=[]:=co (by omega);subst this;simp[bD]
theorem F6:dO zI:=by unfold dO;decide
theorem short_list:dO xS:=by unfold dO;decide
theorem kR(s:List UInt8):(kT s).sz=s.length:=by simp[kT,ah.sz,ah.aB,aY,D.sz,aH,ah.fName,ah.fArgs]
theorem G9(s:List UInt8):(nS s []).sz=s.length:=by simp[nS,ah.sz,ah.aB,aY,D.sz,aH,ah.fName,ah.fArgs]
theorem Cn(s:List UInt8)(t:ah):(nS s [t]).sz=s.length+1+t.sz:=by
 have:=ah.cB t;simp only[nS,ah.sz,ah.aB,aY,D.sz,aH,ah.fName,ah.fArgs,af,ap,aa,ae] at this ⊢;omega
theorem OD(s:List UInt8)(t u:ah):(nS s [t,u]).sz=s.length+2+t.sz+u.sz:=by
 have h1:=ah.cB t;have h2:=ah.cB u;simp only[nS,ah.sz,ah.aB,aY,D.sz,aH,ah.fName,ah.fArgs,af,ap,aa,ae] at h1 h2 ⊢;omega
theorem Bt{bs:List Int}{vars:List (List UInt8)}(hv:dO vars):∀(n:Nat)(c:Cu bs),(jV vars n c).1.sz+10<=18*2^n
 |0,c=>by
  rw[jV];split
  ·have:=eX (aD 8 c).2 hv;simp only[kR];omega
  ·have:=eX (aD 8 c).2 F6;simp only[G9];omega
 |n+1,c=>by
  have ih:=Bt hv n (bs:=bs)
  have hp:2^ (n+1)=2^n+2^n:=by rw[Nat.pow_succ];omega
  have h2:=Nat.one_le_two_pow (n:=n);rw[jV];split
  ·have:=eX (aD 8 c).2 hv;simp only[kR];omega
  split
  ·have:=eX (aD 8 c).2 F6;simp only[G9];omega
  split
  ·have h3:=ih (aD 8 c).2;have h4:=ih (jV vars n (aD 8 c).2).2;simp only[OD,aa,ae];omega
  ·have h3:=ih (bD xS (aD 8 c).2).2;have:=eX (aD 8 c).2 short_list;simp only[Cn];omega
def tyP(t:ah):List C:=[.d (.i .i64 t.aW),.d (.s t.fName)]
theorem IV(t:ah):xA (tyP t)=true:=rfl
def F7(t:ah)(S':Store)(r:V)(own:List Obj)(S1:Store):Prop:=S1=S'/\∃x,r=.agg (tyP t++x::[])/\Ea own x 3 (t.fArgs.map ah.enc)
theorem LZ(l:List ah):∀y∈l.map ah.enc,y.length=3:=by
 intro y hy;obtain⟨x,_,rfl⟩:=cp.1 hy;rw[ah.aB];rfl
theorem eH(s:List UInt8):aT prog 75 [.c (.d (.s s))] (.agg [.d (.i .i64 1),.d (.s s),.bF []]):=fun S=>by
 refine zcx [.cell 2 73] func75 ntmps75 ?_;simp -implicitDefEqProofs (disch:=omega) only[go_sem]
 first|done|exact⟨rfl,rfl⟩|rfl
theorem IW(s:List UInt8)(l:List ah){es:List (List D)}(he:es=l.map ah.enc)(hl:l.length<=1048576){a:C}(ha:a=.d (.sl es)\/a=.bF es)(S:Store):nE prog 80 [.c (.d (.s s)),.c a] S (F7 (nS s l) S):=by
 subst he;refine yT (rs:=[.cell 4 73]) zmx func80 ntmps80 rfl rfl rfl rfl rfl ?_;have hln:=LZ l;rcases ha with rfl|rfl
 all_goals
  simp -implicitDefEqProofs (disch:=omega) only[go_sem];refine⟨hln,⟨_,rfl,rfl⟩,fun y hy=>absurd hy List.not_mem_nil,by omega,rfl,_,rfl,.inl ⟨1,rfl,rfl⟩⟩
theorem oG{f:FuncId}{args:List V}{S S':Store}{t:ah}(h:nE prog f args S (F7 t S')):bK prog f args S (fun r S1=>r=.agg [.d (.i .i64 t.aW),.d (.s t.fName),.d (.sl (t.fArgs.map ah.enc))]/\S1=S'):=
 nE.plain (IV t) rfl h
theorem F8{f:FuncId}{args:List V}{S S':Store}{t:ah}(ht:xw S'=true)(h:nE prog f args S (F7 t S')):
 bK prog f args S (fun r S1=>r=.agg [.d (.i .i64 t.aW),.d (.s t.fName),.bM (0,vG S') (t.fArgs.map ah.enc)]/\S1=F3 S' [.tok 3 (t.fArgs.map ah.enc)]):=
 nE.push (IV t) rfl ht h
theorem sQ(s:List UInt8)(l:List ah){es:List (List D)}(he:es=l.map ah.enc)(hl:l.length<=1048576){a:C}(ha:a=.d (.sl es)\/a=.bF es){own:List Ab.Obj}{Ω:Store}:
 bK prog 80 [.c (.d (.s s)),.c a] (own::Ω) (fun r S1=>r=.agg [.d (.i .i64 2),.d (.s s),.bM (0,own.length) es]/\S1=(own++[.tok 3 es])::Ω):=by
 have:=F8 (S':=own::Ω) rfl (IW s l he hl ha (own::Ω));rw[he];exact this
theorem qR(s:List UInt8)(l:List ah){es:List (List D)}(he:es=l.map ah.enc)(hl:l.length<=1048576){a:C}(ha:a=.d (.sl es)\/a=.bF es):aT prog 80 [.c (.d (.s s)),.c a] (.agg [.d (.i .i64 2),.d (.s s),.d (.sl es)]):=fun S=>by
 have:=oG (IW s l he hl ha S);rw[he];exact this
theorem L6{bs:List Int}{xs:List (List UInt8)}(c:Cu bs)(hi:(aD (xs.length:Int) c).1.toNat<xs.length):xs[(aD (xs.length:Int) c).1.toNat]=(bD xs c).1:=by
 simp only[bD,List.getD,ag hi,dn]
theorem zJ{bs:List Int}(hB:Bytes bs){vars:List (List UInt8)}(hv:vars.length<=256):∀(n:Nat)(c:Cu bs)(l j:Nat)(S:Store),aN S (l,j)=some (.box (cur c))->n<=1048576->
 nE prog 82 [.c (.ptr (l,j) 0),.c (.d (.sl (vars.map encS))),.c (.d (.i .i64 n))] S (F7 (jV vars n c).1 (aP S (l,j) (.box (cur (jV vars n c).2)))):=by
 intro n
 induction n with
 |zero=>
  intro c l j S hk hn;have g:∀x:Ab.Obj,aN (aP S (l,j) x) (l,j)=some x:=fun x=>bP _ _ _ _ hk;obtain⟨k,hkd⟩:∃k,k=(aD 8 c).1:=⟨_,rfl⟩;obtain⟨c1,hc1⟩:∃c1,c1=(aD 8 c).2:=⟨_,rfl⟩;rw[jV,<-hkd,<-hc1];refine yT (rs:=[.cell 6 73]) zmx func82 ntmps82 rfl rfl rfl rfl rfl ?_;simp -implicitDefEqProofs (disch:=omega) only[go_sem];refine bq rfl (dB hB c (1+l) j _ 8 (by rw[aQ];exact hk) (by omega) (by omega)) ?_;rw[<-hkd,<-hc1];have d0:decide (((0:Nat):Int)<=0)=true:=rfl;simp -implicitDefEqProofs (disch:=omega) only[go_sem]
  with_reducible refine aj (fun hb=> ?_) (fun hb=> ?_)<;>have h:=hb<;>(try simp only[wf_preprocess] at h)<;>simp -implicitDefEqProofs (disch:=omega) only[go_sem,hb,d0]<;>(repeat(with_reducible refine And.intro ?_ ?_;focus first|omega|rfl|assumption|exact⟨_,rfl,rfl⟩|(simp;omega)|(simp;done)))
  rotate_left
  rw[if_neg (by omega)]
  rotate_left
  with_reducible refine aj (fun hb=> ?_) (fun hb=> ?_)<;>have h:=hb<;>(try simp only[wf_preprocess] at h)<;>simp -implicitDefEqProofs (disch:=omega) only[go_sem,hb,d0]<;>(repeat(with_reducible refine And.intro ?_ ?_;focus first|omega|rfl|assumption|exact⟨_,rfl,rfl⟩|(simp;omega)|(simp;done)))
  ·have hx:=eD (n:=vars.length) c1 (by omega)
   have hi:(aD (vars.length:Int) c1).1.toNat<vars.length:=by omega
   rw[if_pos ⟨by omega,by omega⟩];refine bq rfl (dB hB c1 (1+l) j _ vars.length (by rw[aQ];exact g _) (by omega) (by omega)) ?_;simp -implicitDefEqProofs (disch:=omega) only[go_sem,encS]
   (repeat(with_reducible refine And.intro ?_ ?_;focus first|omega|rfl|assumption|exact⟨_,rfl,rfl⟩|(simp;omega)|(simp;done)))
   rw[L6 c1 hi];refine au (eH (bD vars c1).1) ?_;simp -implicitDefEqProofs (disch:=omega) only[go_sem]<;>(repeat(with_reducible refine And.intro ?_ ?_;focus first|omega|rfl|assumption|exact⟨_,rfl,rfl⟩|(simp;omega)|(simp;done)));exact⟨rfl,_,rfl,.inr ⟨rfl,fun e he=>by cases he⟩⟩
  rw[if_neg (by omega)]
  all_goals with_reducible refine aj (fun hb=> ?_) (fun hb=> ?_)<;>have h:=hb<;>(try simp only[wf_preprocess] at h)<;>simp -implicitDefEqProofs (disch:=omega) only[go_sem,hb,d0]<;>(repeat(with_reducible refine And.intro ?_ ?_;focus first|omega|rfl|assumption|exact⟨_,rfl,rfl⟩|(simp;omega)|(simp;done)))
  all_goals
   refine dJ [true] rfl (dU hB c1 (1+l) j _ zI (by rw[aQ];exact g _) (by decide) (by decide)) ?_;simp -implicitDefEqProofs (disch:=omega) only[go_sem];refine bq rfl (sQ _ [] rfl (ao _) (.inr rfl)) ?_;simp -implicitDefEqProofs (disch:=omega) only[go_sem];exact⟨rfl,_,rfl,.inl ⟨1,rfl,rfl⟩⟩
 |succ n ih=>
  intro c l j S hk hn;have g:∀x:Ab.Obj,aN (aP S (l,j) x) (l,j)=some x:=fun x=>bP _ _ _ _ hk;obtain⟨k,hkd⟩:∃k,k=(aD 8 c).1:=⟨_,rfl⟩;obtain⟨c1,hc1⟩:∃c1,c1=(aD 8 c).2:=⟨_,rfl⟩;have ih1:=fun c l j S hk=>oG (ih c l j S hk (by omega));rw[jV,<-hkd,<-hc1];refine yT (rs:=[.cell 6 73]) zmx func82 ntmps82 rfl rfl rfl rfl rfl ?_;simp -implicitDefEqProofs (disch:=omega) only[go_sem];refine bq rfl (dB hB c (1+l) j _ 8 (by rw[aQ];exact hk) (by omega) (by omega)) ?_;rw[<-hkd,<-hc1];have d0:decide (((n+1:Nat):Int)<=0)=false:=decide_eq_false (by omega)
  have d1:((n+1:Nat):Int)-1=(n:Int):=by omega
  simp -implicitDefEqProofs (disch:=omega) only[go_sem]
  with_reducible refine aj (fun hb=> ?_) (fun hb=> ?_)<;>have h:=hb<;>(try simp only[wf_preprocess] at h)<;>simp -implicitDefEqProofs (disch:=omega) only[go_sem,hb,d0]<;>(repeat(with_reducible refine And.intro ?_ ?_;focus first|omega|rfl|assumption|exact⟨_,rfl,rfl⟩|(simp;omega)|(simp;done)))
  rotate_left
  rw[if_neg (by omega)]
  rotate_left
  with_reducible refine aj (fun hb=> ?_) (fun hb=> ?_)<;>have h:=hb<;>(try simp only[wf_preprocess] at h)<;>simp -implicitDefEqProofs (disch:=omega) only[go_sem,hb,d0]<;>(repeat(with_reducible refine And.intro ?_ ?_;focus first|omega|rfl|assumption|exact⟨_,rfl,rfl⟩|(simp;omega)|(simp;done)))
  ·have hx:=eD (n:=vars.length) c1 (by omega)
   have hi:(aD (vars.length:Int) c1).1.toNat<vars.length:=by omega
   rw[if_pos ⟨by omega,by omega⟩];refine bq rfl (dB hB c1 (1+l) j _ vars.length (by rw[aQ];exact g _) (by omega) (by omega)) ?_;simp -implicitDefEqProofs (disch:=omega) only[go_sem,encS]
   (repeat(with_reducible refine And.intro ?_ ?_;focus first|omega|rfl|assumption|exact⟨_,rfl,rfl⟩|(simp;omega)|(simp;done)))
   rw[L6 c1 hi];refine au (eH (bD vars c1).1) ?_;simp -implicitDefEqProofs (disch:=omega) only[go_sem]<;>(repeat(with_reducible refine And.intro ?_ ?_;focus first|omega|rfl|assumption|exact⟨_,rfl,rfl⟩|(simp;omega)|(simp;done)));exact⟨rfl,_,rfl,.inr ⟨rfl,fun e he=>by cases he⟩⟩
  rw[if_neg (by omega)]
  all_goals
   with_reducible refine aj (fun hb=> ?_) (fun hb=> ?_)<;>have h:=hb<;>(try simp only[wf_preprocess] at h)<;>simp -implicitDefEqProofs (disch:=omega) only[go_sem,hb,d0]<;>(repeat(with_reducible refine And.intro ?_ ?_;focus first|omega|rfl|assumption|exact⟨_,rfl,rfl⟩|(simp;omega)|(simp;done)))
   ·rw[if_pos (by omega)];refine dJ [true] rfl (dU hB c1 (1+l) j _ zI (by rw[aQ];exact g _) (by decide) (by decide)) ?_;simp -implicitDefEqProofs (disch:=omega) only[go_sem];refine bq rfl (sQ _ [] rfl (ao _) (.inr rfl)) ?_;simp -implicitDefEqProofs (disch:=omega) only[go_sem];exact⟨rfl,_,rfl,.inl ⟨1,rfl,rfl⟩⟩
   rw[if_neg (by omega)]
   with_reducible refine aj (fun hb=> ?_) (fun hb=> ?_)<;>have h:=hb<;>(try simp only[wf_preprocess] at h)<;>simp -implicitDefEqProofs (disch:=omega) only[go_sem,hb,d1]<;>(repeat(with_reducible refine And.intro ?_ ?_;focus first|omega|rfl|assumption|exact⟨_,rfl,rfl⟩|(simp;omega)|(simp;done)))
   ·rw[if_pos (by omega)];refine bq rfl (ih1 c1 (1+l) j _ (by rw[aQ];exact g _)) ?_;simp -implicitDefEqProofs (disch:=omega) only[go_sem,d1];refine bq rfl (ih1 (jV vars n c1).2 (1+l) j _ (by rw[aQ];exact g _)) ?_;simp -implicitDefEqProofs (disch:=omega) only[go_sem]
    (repeat(with_reducible refine And.intro ?_ ?_;focus first|omega|rfl|assumption|exact⟨_,rfl,rfl⟩|(simp;omega)|(simp;done)))
    refine bq rfl (sQ _ [(jV vars n c1).1,(jV vars n (jV vars n c1).2).1] (by simp only[af,ap,ah.aB]) (by simp) (.inr rfl)) ?_;simp -implicitDefEqProofs (disch:=omega) only[go_sem];refine⟨rfl,_,rfl,.inl ⟨1,?_,?_⟩⟩<;>simp only[nS,ah.fArgs,af,ap,ah.aB]<;>rfl
   ·rw[if_neg (by omega)];refine dJ [true] rfl (dU hB c1 (1+l) j _ xS (by rw[aQ];exact g _) (by decide) (by decide)) ?_;simp -implicitDefEqProofs (disch:=omega) only[go_sem,d1];refine bq rfl (ih1 (bD xS c1).2 (1+l) j _ (by rw[aQ];exact g _)) ?_;simp -implicitDefEqProofs (disch:=omega) only[go_sem]
    (repeat(with_reducible refine And.intro ?_ ?_;focus first|omega|rfl|assumption|exact⟨_,rfl,rfl⟩|(simp;omega)|(simp;done)))
    refine bq rfl (sQ _ [(jV vars n (bD xS c1).2).1] (by simp only[af,ap,ah.aB]) (by simp) (.inr rfl)) ?_;simp -implicitDefEqProofs (disch:=omega) only[go_sem];refine⟨rfl,_,rfl,.inl ⟨1,?_,?_⟩⟩<;>simp only[nS,ah.fArgs,af,ap,ah.aB]<;>rfl
def z8:List (List UInt8):=[[97],[98]]
def Bu:List (List UInt8):=[[97,100,100],[115,104,111,119]]
theorem Ec:dO z8:=by unfold dO;decide
theorem ND:dO Bu:=by unfold dO;decide
def Rc{bs:List Int}(t:ah)(c:Cu bs):ah×Cu bs:=
 if(aD 8 c).1=0 then(xR (bD Bu (aD 8 c).2).1 t,(bD Bu (aD 8 c).2).2) else
 if(aD 8 c).1=1 then(nS [108,105,115,116] [xR [97,100,100] t],(aD 8 c).2) else
 if(aD 8 c).1=2 then(XL [115,104,111,119],(aD 8 c).2) else(t,(aD 8 c).2)
def mI{bs:List Int}(n:Nat)(c:Cu bs):ah×Cu bs:=Rc (jV z8 n c).1 (jV z8 n c).2
def nT:ah:=nS [105,110,116] []
theorem OE(s:List UInt8)(t:ah):(xR s t).sz=s.length+1+t.sz:=by
 have:=ah.cB t;simp only[xR,ah.sz,ah.aB,aY,D.sz,aH,ah.fName,ah.fArgs,af,ap,aa,ae] at this ⊢;omega
theorem abz(s:List UInt8):(XL s).sz=s.length:=by simp[XL,ah.sz,ah.aB,aY,D.sz,aH,ah.fName,ah.fArgs]
theorem xB{bs:List Int}(n:Nat)(c:Cu bs):(mI n c).1.sz<=18*2^n+10:=by
 have h:=Bt Ec n c;unfold mI Rc;split
 ·have:=eX (aD 8 (jV z8 n c).2).2 ND;simp only[OE];omega
 split
 ·simp only[Cn,OE,aa,ae];omega
 split
 ·simp only[abz,aa,ae];omega
 ·show(jV z8 n c).1.sz<=_;omega
theorem IX(s:List UInt8)(t:ah)(h:t.sz<=4194304):aT prog 104 [.c (.d (.s s)),t.v] (.agg [.d (.i .i64 3),.d (.s s),.bF ([t].map ah.enc)]):=fun S=>by
 refine zcx [.cell 4 73] func104 ntmps104 ?_;simp -implicitDefEqProofs (disch:=omega) only[go_sem];refine au (Ub t h) ?_;simp -implicitDefEqProofs (disch:=omega) only[go_sem]<;>(repeat(with_reducible refine And.intro ?_ ?_;focus first|omega|rfl|assumption|exact⟨_,rfl,rfl⟩|(simp;omega)|(simp;done)))
theorem lS:aT prog 76 [] nT.v:=fun S=>by
 refine zcx [.cell 0 73] func76 ntmps76 ?_;simp -implicitDefEqProofs (disch:=omega) only[go_sem];refine au (qR [105,110,116] [] rfl (ao _) (.inl rfl)) ?_;simp -implicitDefEqProofs (disch:=omega) only[go_sem]
 first|done|exact⟨rfl,rfl⟩|rfl
theorem Rf{bs:List Int}(hB:Bytes bs)(n:Nat)(c:Cu bs)(l j:Nat)(S:Store)(hk:aN S (l,j)=some (.box (cur c)))(hn:n<=16):
 nE prog 81 [.c (.ptr (l,j) 0),.c (.d (.i .i64 n))] S (F7 (mI n c).1 (aP S (l,j) (.box (cur (mI n c).2)))):=by
 have g:∀x:Ab.Obj,aN (aP S (l,j) x) (l,j)=some x:=fun x=>bP _ _ _ _ hk;unfold mI;obtain⟨t,ht⟩:∃t,t=(jV z8 n c).1:=⟨_,rfl⟩;obtain⟨c1,hc1⟩:∃c1,c1=(jV z8 n c).2:=⟨_,rfl⟩
 have hsz:t.sz<=4194304:=by
  have:=Bt Ec n c;have h2:2^n<=2^16:=Nat.pow_le_pow_right (by omega) hn;rw[ht];omega
 rw[<-ht,<-hc1];unfold Rc;obtain⟨k,hkd⟩:∃k,k=(aD 8 c1).1:=⟨_,rfl⟩;obtain⟨c2,hc2⟩:∃c2,c2=(aD 8 c1).2:=⟨_,rfl⟩;rw[<-hkd,<-hc2];refine ZX [34] (rs:=[.cell 4 73]) zmx func81 ntmps81 rfl rfl rfl rfl rfl ?_;simp -implicitDefEqProofs (disch:=omega) only[go_sem]
 have h1:=F8 (S':=[.box [.d (.i .i64 0),.d (.s []),.bF []]]::aP S (l,j) (.box (cur (jV z8 n c).2))) rfl (by
  have:=zJ hB (vars:=z8) (by decide) n c (1+l) j ([.box [.d (.i .i64 0),.d (.s []),.bF []]]::S) (by rw[aQ];exact hk) (by omega);rw[dh] at this
  exact this)
 rw[<-ht,<-hc1] at h1;refine dJ [true] rfl h1 ?_;simp -implicitDefEqProofs (disch:=omega) only[go_sem];refine bq rfl (dB hB c1 (1+l) j _ 8 (by rw[aQ];exact g _) (by omega) (by omega)) ?_;rw[<-hkd,<-hc2];simp -implicitDefEqProofs (disch:=omega) only[go_sem]
 with_reducible refine aj (fun hb=> ?_) (fun hb=> ?_)<;>have h:=hb<;>(try simp only[wf_preprocess] at h)<;>simp -implicitDefEqProofs (disch:=omega) only[go_sem,hb]<;>(repeat(with_reducible refine And.intro ?_ ?_;focus first|omega|rfl|assumption|exact⟨_,rfl,rfl⟩|(simp;omega)|(simp;done)))
 ·rw[if_pos h];refine dJ [true] rfl (dU hB c2 (1+l) j _ Bu (by rw[aQ];exact g _) (by decide) (by decide)) ?_;simp -implicitDefEqProofs (disch:=omega) only[go_sem];refine au (IX (bD Bu c2).1 t hsz) ?_;simp -implicitDefEqProofs (disch:=omega) only[go_sem];refine⟨by cases l<;>rfl,?_⟩;simp -implicitDefEqProofs (disch:=omega) only[go_sem];exact⟨rfl,_,rfl,.inr ⟨by simp[xR,ah.fArgs,ah.aB],LZ [t]⟩⟩
 rw[if_neg h]
 with_reducible refine aj (fun hb=> ?_) (fun hb=> ?_)<;>have h:=hb<;>(try simp only[wf_preprocess] at h)<;>simp -implicitDefEqProofs (disch:=omega) only[go_sem,hb]<;>(repeat(with_reducible refine And.intro ?_ ?_;focus first|omega|rfl|assumption|exact⟨_,rfl,rfl⟩|(simp;omega)|(simp;done)))
 ·rw[if_pos h];refine au (IX [97,100,100] t hsz) ?_;simp -implicitDefEqProofs (disch:=omega) only[go_sem]
  (repeat(with_reducible refine And.intro ?_ ?_;focus first|omega|rfl|assumption|exact⟨_,rfl,rfl⟩|(simp;omega)|(simp;done)))
  refine bq rfl (sQ _ [xR [97,100,100] t] (by simp[xR,ah.aB,ah.aW,ah.fName,ah.fArgs]) (by simp) (.inr rfl)) ?_;simp -implicitDefEqProofs (disch:=omega) only[go_sem];refine⟨rfl,_,rfl,.inl ⟨3,?_,?_⟩⟩<;>simp[nS,xR,ah.aB,ah.aW,ah.fName,ah.fArgs]
 rw[if_neg h]
 with_reducible refine aj (fun hb=> ?_) (fun hb=> ?_)<;>have h:=hb<;>(try simp only[wf_preprocess] at h)<;>simp -implicitDefEqProofs (disch:=omega) only[go_sem,hb]<;>(repeat(with_reducible refine And.intro ?_ ?_;focus first|omega|rfl|assumption|exact⟨_,rfl,rfl⟩|(simp;omega)|(simp;done)))
 ·rw[if_pos h];exact⟨rfl,_,rfl,.inr ⟨rfl,fun e he=>by cases he⟩⟩
 rw[if_neg h];exact⟨rfl,_,rfl,.inl ⟨1,rfl,rfl⟩⟩
theorem vk{bs:List Int}(hB:Bytes bs)(n:Nat)(c:Cu bs)(l j:Nat)(S:Store)(hk:aN S (l,j)=some (.box (cur c)))(hn:n<=16):
 bK prog 81 [.c (.ptr (l,j) 0),.c (.d (.i .i64 n))] S (fun r S1=>r=(mI n c).1.v/\S1=aP S (l,j) (.box (cur (mI n c).2))):=
 oG (Rf hB n c l j S hk hn)
section
variable {w:World} {σ:Nat->Nat}
def JI:C->Option D
 | .d d=>some d
 | .bF es=>some (.sl es)
 | .bM _ es=>some (.sl es)
 |_=>none
theorem UJ{S S':Store}{β β':Hs}{c:C}{d:D}{v:Value}(h:JI c=some d)(hr:fu w σ S β c v):fu w σ S' β' (.d d) v:=by
 cases c<;>simp only[JI,cX] at h<;>first|(cases h;done)|(subst h;first|exact hr|exact hr.1)
theorem Bv{S S':Store}{β β':Hs}{pre:List C}{ds:List D}{x x' y y':C}{a:List Value}(h1:pre.map JI=ds.map some)(hr:dS w σ S β (pre++[x,y]) a)
 (hx:∀v,a[pre.length]? =some v->fu w σ S β x v->fu w σ S' β' x' v)(hy:∀v,a[pre.length+1]? =some v->fu w σ S β y v->fu w σ S' β' y' v):dS w σ S' β' (ds.map .d++[x',y']) a:=by
 have hl:pre.length=ds.length:=by have:=congrArg List.length h1;simpa using this
 refine⟨by have:=hr.1;simp only[ab,al,aa,ae,hl] at this ⊢;exact this,fun j c hc=> ?_⟩;rcases ew j pre.length with hj|hj
 ·rw[an (by simp;omega),aV] at hc;obtain⟨d,hd,rfl⟩:=Option.map_eq_some_iff.1 hc;have hp:=congrArg (fun l=>l[j]?) h1;simp only[aV,hd,cL,ag hj] at hp;obtain⟨v,e1,e2,e3⟩:=hr.2 j pre[j] (by rw[an hj,ag hj]);exact⟨v,e1,UJ (cD hp) e2,e3⟩
 obtain⟨k,rfl⟩:∃k,j=pre.length+k:=⟨j-pre.length,by omega⟩;rw[am (by simp;omega),al,<-hl,cI] at hc
 match k,hc with
 |0,hc=>
  cases hc;obtain⟨v,e1,e2,e3⟩:=hr.2 pre.length x (by rw[am (aw _),cU];rfl);exact⟨v,e1,hx v e1 e2,e3⟩
 |1,hc=>
  cases hc;obtain⟨v,e1,e2,e3⟩:=hr.2 (pre.length+1) y (by rw[am (by omega),cI];rfl);exact⟨v,e1,hy v e1 e2,e3⟩
 |k+2,hc=>simp at hc
end
section
variable {P:Program} {S S':Store} {f:FuncId} {args:List V}
def Two(ds:List D)(z z':Nat)(es es':List (List D))(S':Store)(r:V)(own:List Obj)(S1:Store):Prop:=S1=S'/\∃pre x y,r=.agg (pre++[x,y])/\pre.map JI=ds.map some/\Ea own x z es/\Ea own y z' es'
theorem nE.abA{ds:List D}{z z':Nat}{es es':List (List D)}(h:nE P f args S (Two ds z z' es es' S')):
 bK P f args S fun r S1=>r=.agg (ds.map .d++[.d (.sl es),.d (.sl es')])/\S1=S':=by
 refine⟨h.1,fun w σ β vs hS hv=>(h.2 w σ β vs hS hv).mono fun e w' ⟨v,r,own,S1,bo,β1,σ',q1,q2,q3,q4,q5,q6,pre,x,y,q7,h1,q8,q9⟩=> ?_⟩;subst q6 q7;obtain⟨a,rfl,hc⟩:=q5;exact⟨_,.agg (ds.map .d++[.d (.sl es),.d (.sl es')]),S1,σ',β1,q1,q2.BN,q3,⟨q4.size,q4.os,q4.output,q4.far,q4.near,fun b hb=>q4.own b (qY hb)⟩,⟨a,rfl,Bv (x':=.d (.sl es)) (y':=.d (.sl es')) h1 hc (fun v e1 e2=>rG q8 e2) (fun v e1 e2=>rG q9 e2)⟩,rfl,rfl⟩
theorem nE.adj{ds:List D}{z z':Nat}{es es':List (List D)}(hz:z≠z')(ht:xw S'=true)(h:nE P f args S (Two ds z z' es es' S')):
 bK P f args S fun r S1=>r=.agg (ds.map .d++[.bM (0,vG S') es,.bM (0,vG S'+1) es'])/\S1=F3 S' [.tok z es,.tok z' es']:=by
 refine⟨h.1,fun w σ β vs hS hv=>(h.2 w σ β vs hS hv).mono fun e w' ⟨v,r,own,S1,bo,β1,σ',q1,q2,q3,q4,q5,q6,pre,x,y,q7,h1,q8,q9⟩=> ?_⟩;subst q6 q7;obtain⟨a,rfl,hc⟩:=q5;obtain⟨u,e1,e2,e3⟩:=hc.2 pre.length x (by rw[am (aw _),cU];rfl);obtain⟨u',CO,e2',e3'⟩:=hc.2 (pre.length+1) y (by rw[am (by omega),cI];rfl);obtain⟨k1,k2⟩:=Eb q2 q8 e2;obtain⟨k1',k2'⟩:=Eb q2 q9 e2'
 cases S1 with
 |nil=>cases ht
 |cons fr Ω=>
 have hd:=q2.BN
 obtain⟨bf,bΩ,rfl,hlen⟩:∃bf bΩ,β1=bf::bΩ/\bf.length=fr.length:=by
  cases β1 with
  |nil=>have:=hd.shape.1;simp at this
  |cons bf bΩ=>
   refine⟨bf,bΩ,rfl,?_⟩;obtain⟨gr,q1,q2⟩:=hd.shape.2 0 fr rfl;simp at q1;rw[q1];exact q2
 obtain⟨l1,l2,l3⟩:=hd.lay (o:=.tok z es) (h:=u) hlen (k1 _ _) fun b hb ⟨k,o,hh,f1,f2,f3⟩=>by
  obtain⟨m,g1,g2,g3⟩:=k2 b hb;have:=q2.apart (0,m) (k.1+1,k.2) _ o u hh b (by rw[aJ];exact g1) (by rw[aJ];exact g3) hb (by rw[bB];exact f1) (by rw[bB];exact f2) f3;cases this
 obtain⟨l4,l5,l6⟩:=l1.lay (o:=.tok z' es') (h:=u') (by simp[hlen]) (k1' _ _) fun b hb ⟨k,o,hh,f1,f2,f3⟩=>by
  obtain⟨m',g1',g2',g3'⟩:=k2' b hb;rcases l3 b ⟨k,o,hh,f1,f2,f3⟩ with⟨k,o,hh,f1,f2,f3⟩|q
  ·have:=q2.apart (0,m') (k.1+1,k.2) _ o u' hh b (by rw[aJ];exact g1') (by rw[aJ];exact g3') hb (by rw[bB];exact f1) (by rw[bB];exact f2) f3;cases this
  ·obtain⟨m,g1,g2,g3⟩:=k2 b q;have:=q2.apart (0,m') (0,m) _ _ u' u b (by rw[aJ];exact g1') (by rw[aJ];exact g3') hb (by rw[aJ];exact g1) (by rw[aJ];exact g3) q;cases this;rw[g1] at g1';injection g1' with g1';injection g1' with g1';exact hz g1'
 have el:(fr++[Obj.tok z es]).length=fr.length+1:=by simp
 refine⟨_,.agg (ds.map .d++[.bM (0,vG (fr::Ω)) es,.bM (0,vG (fr::Ω)+1) es']),_,σ',_,q1,l4,(q3.trans l2).trans l5,⟨q4.size,q4.os,q4.output,q4.far,q4.near,fun b hb=> ?_⟩,⟨a,rfl,Bv h1 hc (fun v f1 f2=> ?_) fun v f1 f2=> ?_⟩,rfl,?_⟩
 ·rcases l6 b hb with q|q
  ·rcases l3 b q with q|q
   ·exact q4.own b (qY q)
   ·obtain⟨m,g1,g2,g3⟩:=k2 b q;exact q4.own b ⟨(0,m),_,u,by rw[aJ];exact g1,by rw[aJ];exact g3,q⟩
  ·obtain⟨m,g1,g2,g3⟩:=k2' b q;exact q4.own b ⟨(0,m),_,u',by rw[aJ];exact g1,by rw[aJ];exact g3,q⟩
 ·rw[e1] at f1;cases f1;refine⟨rG q8 e2,.tok z es,?_,fun aM es' e=> ?_⟩
  ·rw[pQ,aJ,an (by simp),am (aw _),cU];rfl
  obtain⟨_,rfl⟩:=jP (lab:=none) e;refine⟨aw _,fun _=> ?_⟩;rw[pQ,aJ,<-hlen,an (by simp),am (aw _),cU];rfl
 ·rw[CO] at f1;cases f1;refine⟨rG q9 e2',.tok z' es',?_,fun aM es' e=> ?_⟩
  ·rw[pQ,<-el];exact bL _ _ _
  obtain⟨_,rfl⟩:=jP (lab:=none) e;refine⟨aw _,fun _=> ?_⟩;rw[pQ,<-el,show(fr++[Obj.tok z es]).length=(bf++[u]).length by simp[hlen]];exact bL _ _ _
 ·rw[F4,cH];rfl
end
def zT:ah:=.mk 0 [] []
def je(n:Int):ak:=.mk 1 [] [] n zT [] []
def qg(n:Int):ak:=.mk 2 [] [] n zT [] []
def qA(s:List UInt8):ak:=.mk 3 [] s 0 zT [] []
def lg(k:Int)(s:List UInt8)(l:List ak):ak:=.mk k [] s 0 zT l []
def rH:List (List UInt8):=[[102],[103]]
def uJ:List (List UInt8):=[[115,104,111,119],[97,100,100]]
def qh:List (List UInt8):=[[43],[45],[42],[60],[61]]
theorem L8:dO rH:=by unfold dO;decide
theorem Rh:dO uJ:=by unfold dO;decide
theorem Ri:dO qh:=by unfold dO;decide
def aL:List (List UInt8):=[[97]]
theorem ZY:dO aL:=by unfold dO;decide
def iX{bs:List Int}(k:Int)(sub:List (List UInt8)->Cu bs->ak×Cu bs)(vars:List (List UInt8))(c:Cu bs):ak×Cu bs:=
 if k=1 then(qg (aD 2 c).1,(aD 2 c).2) else
 if(k=2\/k=3)/\0<vars.length then(qA (bD vars c).1,(bD vars c).2) else
 if k=4 then(lg 4 (bD rH c).1 [(sub vars (bD rH c).2).1],(sub vars (bD rH c).2).2) else
 if k=5 then(.mk 5 (bD uJ c).1 [109] 0 zT [(sub vars (bD uJ c).2).1,(sub vars (sub vars (bD uJ c).2).2).1] [],(sub vars (sub vars (bD uJ c).2).2).2) else
 if k=6 then(lg 6 [99,111,110,115] [(sub vars c).1,(sub vars (sub vars c).2).1],(sub vars (sub vars c).2).2) else
 if k=7 then(.mk 7 [] [] 0 zT [(sub vars c).1] [.mk [110,105,108] [] (sub vars (sub vars c).2).1,.mk [99,111,110,115] [[104],[116]] (sub (vars++[[104],[116]]) (sub vars (sub vars c).2).2).1],(sub (vars++[[104],[116]]) (sub vars (sub vars c).2).2).2) else
 if k=8 then(lg 8 [121] [(sub vars c).1,(sub (vars++[[121]]) (sub vars c).2).1],(sub (vars++[[121]]) (sub vars c).2).2) else
 if k=9 then(lg 9 [] [(sub vars c).1,(sub vars (sub vars c).2).1,(sub vars (sub vars (sub vars c).2).2).1],(sub vars (sub vars (sub vars c).2).2).2) else
 if k=10 then(lg 10 (bD qh c).1 [(sub vars (bD qh c).2).1,(sub vars (sub vars (bD qh c).2).2).1],(sub vars (sub vars (bD qh c).2).2).2) else
 if k=11 then(.mk 11 [115,104,111,119] [] 0 zT [(sub vars c).1] [],(sub vars c).2) else
 if k=12 then(.mk 12 [] [] 0 (jV aL 1 c).1 [(sub vars (jV aL 1 c).2).1] [],(sub vars (jV aL 1 c).2).2) else
 (je ((aD 20 c).1-5),(aD 20 c).2)
def fE{bs:List Int}:Nat->List (List UInt8)->Cu bs->ak×Cu bs
 |0,vars,c=>iX ((aD 13 c).1.tmod 3) (fun _ c=>(je 0,c)) vars (aD 13 c).2
 |n+1,vars,c=>iX (aD 13 c).1 (fE n) vars (aD 13 c).2
theorem dO.append{a b:List (List UInt8)}(h:dO a)(k:dO b):dO (a++b):=fun s hs=>(cR.1 hs).elim (h s) (k s)
theorem jO(k:Int)(t s:List UInt8)(n:Int)(ty:ah)(a:List ak)(b:List aR):(ak.mk k t s n ty a b).sz=t.length+s.length+ty.sz+a.length+aH (a.map ak.enc)+b.length+aH (b.map aR.enc):=by
 have:=ah.cB ty;simp only[ak.sz,ak.aB,aY,bG,D.sz,al,ak.aW,ak.dP,ak.fName,ak.fN,ak.fType,ak.fArgs,ak.aX,this];omega
theorem ou(s:List UInt8)(v:List (List UInt8))(b:ak):aY (aR.mk s v b).enc=s.length+v.length+aH (v.map encS)+b.sz:=by
 have:=ak.cB b;simp only[aR.aB,aY,bG,D.sz,al,aR.fO,aR.aO,aR.fBody,this];omega
theorem kU:zT.sz=0:=by simp[zT,ah.sz,ah.aB,aY,D.sz,aH,ah.fName,ah.fArgs]
theorem L9{bs:List Int}{k:Int}{sub:List (List UInt8)->Cu bs->ak×Cu bs}{vars:List (List UInt8)}{m:Nat}(hv:dO vars)(hs:∀v c,dO v->(sub v c).1.sz<=m)(c:Cu bs):(iX k sub vars c).1.sz<=3*m+40:=by
 have h1:=fun c=>hs vars c hv;have h2:=fun c=>hs (vars++[[104],[116]]) c (hv.append (by unfold dO;decide));have h3:=fun c=>hs (vars++[[121]]) c (hv.append (by unfold dO;decide));unfold iX;by_cases e0:k=1
 ·rw[if_pos e0];simp only[qg,qA,lg,je,jO,ou,kU,af,ap,aa,ae,aH,ak.cB,encS,aY,D.sz];omega
 rw[if_neg e0];by_cases e1:(k=2\/k=3)/\0<vars.length
 ·rw[if_pos e1];simp only[qg,qA,lg,je,jO,ou,kU,af,ap,aa,ae,aH,ak.cB,encS,aY,D.sz];have:=eX c hv;omega
 rw[if_neg e1];by_cases e2:k=4
 ·rw[if_pos e2];simp only[qg,qA,lg,je,jO,ou,kU,af,ap,aa,ae,aH,ak.cB,encS,aY,D.sz];have:=eX c L8;have:=h1 (bD rH c).2;omega
 rw[if_neg e2];by_cases e3:k=5
 ·rw[if_pos e3];simp only[qg,qA,lg,je,jO,ou,kU,af,ap,aa,ae,aH,ak.cB,encS,aY,D.sz];have:=eX c Rh;have:=h1 (bD uJ c).2;have:=h1 (sub vars (bD uJ c).2).2;omega
 rw[if_neg e3];by_cases e4:k=6
 ·rw[if_pos e4];simp only[qg,qA,lg,je,jO,ou,kU,af,ap,aa,ae,aH,ak.cB,encS,aY,D.sz];have:=h1 c;have:=h1 (sub vars c).2;omega
 rw[if_neg e4];by_cases e5:k=7
 ·rw[if_pos e5];simp only[qg,qA,lg,je,jO,ou,kU,af,ap,aa,ae,aH,ak.cB,encS,aY,D.sz];have:=h1 c;have:=h1 (sub vars c).2;have:=h2 (sub vars (sub vars c).2).2;omega
 rw[if_neg e5];by_cases e6:k=8
 ·rw[if_pos e6];simp only[qg,qA,lg,je,jO,ou,kU,af,ap,aa,ae,aH,ak.cB,encS,aY,D.sz];have:=h1 c;have:=h3 (sub vars c).2;omega
 rw[if_neg e6];by_cases e7:k=9
 ·rw[if_pos e7];simp only[qg,qA,lg,je,jO,ou,kU,af,ap,aa,ae,aH,ak.cB,encS,aY,D.sz];have:=h1 c;have:=h1 (sub vars c).2;have:=h1 (sub vars (sub vars c).2).2;omega
 rw[if_neg e7];by_cases e8:k=10
 ·rw[if_pos e8];simp only[qg,qA,lg,je,jO,ou,kU,af,ap,aa,ae,aH,ak.cB,encS,aY,D.sz];have:=eX c Ri;have:=h1 (bD qh c).2;have:=h1 (sub vars (bD qh c).2).2;omega
 rw[if_neg e8];by_cases e9:k=11
 ·rw[if_pos e9];simp only[qg,qA,lg,je,jO,ou,kU,af,ap,aa,ae,aH,ak.cB,encS,aY,D.sz];have:=h1 c;omega
 rw[if_neg e9];by_cases e10:k=12
 ·rw[if_pos e10];simp only[qg,qA,lg,je,jO,ou,kU,af,ap,aa,ae,aH,ak.cB,encS,aY,D.sz];have:=Bt ZY 1 c;have:=h1 (jV aL 1 c).2;omega
 rw[if_neg e10];simp only[qg,qA,lg,je,jO,ou,kU,af,ap,aa,ae,aH,ak.cB,encS,aY,D.sz];omega
theorem Ed{bs:List Int}:∀(n:Nat)(vars:List (List UInt8))(c:Cu bs),dO vars->(fE n vars c).1.sz+20<=60*3^n
 |0,vars,c,hv=>by
  have:=L9 (k:=(aD 13 c).1.tmod 3) (sub:=fun _ c=>(je 0,c)) (m:=0) hv (fun v c _=>by simp[je,jO,kU,aH]) (aD 13 c).2;rw[fE];omega
 |n+1,vars,c,hv=>by
  have ih:=Ed n (bs:=bs);have:=L9 (k:=(aD 13 c).1) (sub:=fE n) (m:=60*3^n-20) hv (fun v c h=>by have:=ih v c h;omega) (aD 13 c).2;have h1:1<=3^n:=Nat.one_le_pow _ _ (by omega);rw[fE,Nat.pow_succ];omega
theorem nU(k:Int)(t s:List UInt8)(n:Int)(ty:ah)(a:List ak)(b:List aR):(ak.mk k t s n ty a b).fArgs=a:=rfl
theorem nV(k:Int)(t s:List UInt8)(n:Int)(ty:ah)(a:List ak)(b:List aR):(ak.mk k t s n ty a b).aX=b:=rfl
theorem qj(s:List UInt8)(v:List (List UInt8))(b:ak):(aR.mk s v b).enc=.s s:: .sl (v.map encS)::b.enc:=by rw[aR.aB];rfl
def exP(t:ak):List D:=[.i .i64 t.aW,.s t.dP,.s t.fName,.i .i64 t.fN,.i .i64 t.fType.aW,.s t.fType.fName,.sl (t.fType.fArgs.map ah.enc)]
def JJ(t:ak)(S':Store):V->List Obj->Store->Prop:=Two (exP t) 9 11 (t.fArgs.map ak.enc) (t.aX.map aR.enc) S'
theorem xC(l:List ak):∀y∈l.map ak.enc,y.length=9:=by
 intro y hy;obtain⟨x,_,rfl⟩:=cp.1 hy;exact ak.bV x
theorem XO(l:List aR):∀y∈l.map aR.enc,y.length=11:=by
 intro y hy;obtain⟨x,_,rfl⟩:=cp.1 hy;exact aR.bV x
theorem mJ(n:Int):aT prog 79 [.c (.d (.i .i64 n))] (.agg [.d (.i .i64 1),.d (.s []),.d (.s []),.d (.i .i64 n),.d (.i .i64 0),.d (.s []),.bF [],.bF [],.bF []]):=fun S=>by
 refine zcx [.cell 2 83] func79 ntmps79 ?_;simp -implicitDefEqProofs (disch:=omega) only[go_sem]
 first|done|exact⟨rfl,rfl⟩|rfl
theorem pR(s:List UInt8):aT prog 78 [.c (.d (.s s))] (.agg [.d (.i .i64 3),.d (.s []),.d (.s s),.d (.i .i64 0),.d (.i .i64 0),.d (.s []),.bF [],.bF [],.bF []]):=fun S=>by
 refine zcx [.cell 2 83] func78 ntmps78 ?_;simp -implicitDefEqProofs (disch:=omega) only[go_sem]
 first|done|exact⟨rfl,rfl⟩|rfl
theorem xU(k:Int)(s:List UInt8)(l:List ak){es:List (List D)}(he:es=l.map ak.enc)(hl:l.length<=1048576){a:C}(ha:a=.d (.sl es)\/a=.bF es)(S:Store):nE prog 77 [.c (.d (.i .i64 k)),.c (.d (.s s)),.c a] S (JJ (lg k s l) S):=by
 subst he;refine yT (rs:=[.cell 6 83]) zmx func77 ntmps77 rfl rfl rfl rfl rfl ?_;have hln:=xC l;rcases ha with rfl|rfl
 all_goals
  simp -implicitDefEqProofs (disch:=omega) only[go_sem];refine⟨hln,⟨_,rfl,rfl⟩,fun y hy=>absurd hy List.not_mem_nil,by omega,rfl,[_,_,_,_,_,_,_],_,_,rfl,rfl,.inl ⟨1,rfl,rfl⟩,.inr ⟨rfl,fun e he=>by cases he⟩⟩
theorem oH{f:FuncId}{args:List V}{S S':Store}{t:ak}(h:nE prog f args S (JJ t S')):bK prog f args S (fun r S1=>r=t.v/\S1=S'):=
 nE.abA h
theorem Rj{f:FuncId}{args:List V}{S S':Store}{t:ak}(ht:xw S'=true)(h:nE prog f args S (JJ t S')):
 bK prog f args S (fun r S1=>r=.agg [.d (.i .i64 t.aW),.d (.s t.dP),.d (.s t.fName),.d (.i .i64 t.fN),.d (.i .i64 t.fType.aW),.d (.s t.fType.fName),.d (.sl (t.fType.fArgs.map ah.enc)),.bM (0,vG S') (t.fArgs.map ak.enc),.bM (0,vG S'+1) (t.aX.map aR.enc)]/\S1=F3 S' [.tok 9 (t.fArgs.map ak.enc),.tok 11 (t.aX.map aR.enc)]):=
 nE.adj (by decide) ht h
theorem sS(k:Int)(s:List UInt8)(l:List ak){es:List (List D)}(he:es=l.map ak.enc)(hl:l.length<=1048576){a:C}(ha:a=.d (.sl es)\/a=.bF es){own:List Ab.Obj}{Ω:Store}:
 bK prog 77 [.c (.d (.i .i64 k)),.c (.d (.s s)),.c a] (own::Ω) (fun r S1=>r=.agg [.d (.i .i64 k),.d (.s []),.d (.s s),.d (.i .i64 0),.d (.i .i64 0),.d (.s []),.d (.sl []),.bM (0,own.length) es,.bM (0,own.length+1) []]/\S1=(own++[.tok 9 es,.tok 11 []])::Ω):=by
 have:=Rj (S':=own::Ω) rfl (xU k s l he hl ha (own::Ω));rw[he];exact this
theorem Di{bs:List Int}(hB:Bytes bs):∀(n:Nat)(vars:List (List UInt8))(c:Cu bs)(l j:Nat)(S:Store),vars.length+2*n<=256->aN S (l,j)=some (.box (cur c))->
 nE prog 83 [.c (.ptr (l,j) 0),.c (.d (.sl (vars.map encS))),.c (.d (.i .i64 n))] S (JJ (fE n vars c).1 (aP S (l,j) (.box (cur (fE n vars c).2)))):=by
 intro n
 induction n with
 |zero=>
  intro vars c l j S hv hk;have g:∀x:Ab.Obj,aN (aP S (l,j) x) (l,j)=some x:=fun x=>bP _ _ _ _ hk;have hx:=eD (n:=13) c (by omega);have hy:=Int.tmod_lt_of_pos (aD 13 c).1 (b:=3) (by omega);have hz:=Int.tmod_nonneg 3 hx.1;obtain⟨k,hkd⟩:∃k,k=(aD 13 c).1.tmod 3:=⟨_,rfl⟩;obtain⟨c1,hc1⟩:∃c1,c1=(aD 13 c).2:=⟨_,rfl⟩;rw[fE,<-hkd,<-hc1];obtain⟨q,hq⟩:∃q,q=iX k (fun _ c=>(je 0,c)) vars c1:=⟨_,rfl⟩;rw[<-hq];refine yT (rs:=[.cell 6 83]) zmx func83 ntmps83 rfl rfl rfl rfl rfl ?_;simp -implicitDefEqProofs (disch:=omega) only[go_sem];refine bq rfl (dB hB c (1+l) j _ 13 (by rw[aQ];exact hk) (by omega) (by omega)) ?_;rw[<-hc1];have d0:decide (((0:Nat):Int)<=0)=true:=rfl;simp -implicitDefEqProofs (disch:=omega) only[go_sem,d0]
  (repeat(with_reducible refine And.intro ?_ ?_;focus first|omega|rfl|assumption|exact⟨_,rfl,rfl⟩|(simp;omega)|(simp;done)))
  rw[<-hkd] at hy hz ⊢;have d1:k<3:=hy;have n3:decide (k=3)=false:=decide_eq_false (by omega);have n4:decide (k=4)=false:=decide_eq_false (by omega);have n5:decide (k=5)=false:=decide_eq_false (by omega);have n6:decide (k=6)=false:=decide_eq_false (by omega);have n7:decide (k=7)=false:=decide_eq_false (by omega);have n8:decide (k=8)=false:=decide_eq_false (by omega);have n9:decide (k=9)=false:=decide_eq_false (by omega);have n10:decide (k=10)=false:=decide_eq_false (by omega);have n11:decide (k=11)=false:=decide_eq_false (by omega);have n12:decide (k=12)=false:=decide_eq_false (by omega)
  with_reducible refine aj (fun hb=> ?_) (fun hb=> ?_)<;>have h:=hb<;>(try simp only[wf_preprocess] at h)<;>simp -implicitDefEqProofs (disch:=omega) only[go_sem,hb,n3,n4,n5,n6,n7,n8,n9,n10,n11,n12]<;>(repeat(with_reducible refine And.intro ?_ ?_;focus first|omega|rfl|assumption|exact⟨_,rfl,rfl⟩|(simp;omega)|(simp;done)))
  ·subst h;simp only[iX,reduceIte] at hq;refine bq rfl (dB hB c1 (1+l) j _ 2 (by rw[aQ];exact g _) (by omega) (by omega)) ?_;simp -implicitDefEqProofs (disch:=omega) only[go_sem,n3,n4,n5,n6,n7,n8,n9,n10,n11,n12];rw[hq];refine⟨rfl,[_,_,_,_,_,_,_],_,_,rfl,rfl,.inr ⟨rfl,fun e he=>by cases he⟩,.inr ⟨rfl,fun e he=>by cases he⟩⟩
  have e1:=h
  with_reducible refine aj (fun hb=> ?_) (fun hb=> ?_)<;>have h:=hb<;>(try simp only[wf_preprocess] at h)<;>simp -implicitDefEqProofs (disch:=omega) only[go_sem,hb,n3,n4,n5,n6,n7,n8,n9,n10,n11,n12]<;>(repeat(with_reducible refine And.intro ?_ ?_;focus first|omega|rfl|assumption|exact⟨_,rfl,rfl⟩|(simp;omega)|(simp;done)))
  ·subst h
   with_reducible refine aj (fun hb=> ?_) (fun hb=> ?_)<;>have h:=hb<;>(try simp only[wf_preprocess] at h)<;>simp -implicitDefEqProofs (disch:=omega) only[go_sem,hb]<;>(repeat(with_reducible refine And.intro ?_ ?_;focus first|omega|rfl|assumption|exact⟨_,rfl,rfl⟩|(simp;omega)|(simp;done)))
   ·have hl:0<vars.length:=by omega
    simp only[iX,reduceIte,Int.reduceEq,false_or,or_false,or_self,false_and,true_and,if_pos hl] at hq;refine dJ [true] rfl (dU hB c1 (1+l) j _ vars (by rw[aQ];exact g _) (by omega) (by omega)) ?_;simp -implicitDefEqProofs (disch:=omega) only[go_sem,n3,n4,n5,n6,n7,n8,n9,n10,n11,n12];refine au (pR (bD vars c1).1) ?_;simp -implicitDefEqProofs (disch:=omega) only[go_sem,n3,n4,n5,n6,n7,n8,n9,n10,n11,n12];rw[hq];refine⟨rfl,[_,_,_,_,_,_,_],_,_,rfl,rfl,.inr ⟨rfl,fun e he=>by cases he⟩,.inr ⟨rfl,fun e he=>by cases he⟩⟩
   ·have hl:¬0<vars.length:=by omega
    simp only[iX,reduceIte,Int.reduceEq,false_or,or_false,or_self,false_and,true_and,if_neg hl] at hq;have hx2:=eD (n:=20) c1 (by omega);refine bq rfl (dB hB c1 (1+l) j _ 20 (by rw[aQ];exact g _) (by omega) (by omega)) ?_;simp -implicitDefEqProofs (disch:=omega) only[go_sem,n3,n4,n5,n6,n7,n8,n9,n10,n11,n12]
    (repeat(with_reducible refine And.intro ?_ ?_;focus first|omega|rfl|assumption|exact⟨_,rfl,rfl⟩|(simp;omega)|(simp;done)))
    refine au (mJ ((aD 20 c1).1-5)) ?_;simp -implicitDefEqProofs (disch:=omega) only[go_sem,n3,n4,n5,n6,n7,n8,n9,n10,n11,n12];rw[hq];refine⟨rfl,[_,_,_,_,_,_,_],_,_,rfl,rfl,.inr ⟨rfl,fun e he=>by cases he⟩,.inr ⟨rfl,fun e he=>by cases he⟩⟩
  have e2:=h
  have e3:¬k=3:=by omega
  have e4:¬k=4:=by omega
  have e5:¬k=5:=by omega
  have e6:¬k=6:=by omega
  have e7:¬k=7:=by omega
  have e8:¬k=8:=by omega
  have e9:¬k=9:=by omega
  have e10:¬k=10:=by omega
  have e11:¬k=11:=by omega
  have e12:¬k=12:=by omega
  simp only[iX,if_neg e1,e2,e3,false_or,or_self,false_and,reduceIte,if_neg e4,if_neg e5,if_neg e6,if_neg e7,if_neg e8,if_neg e9,if_neg e10,if_neg e11,if_neg e12] at hq;have hx2:=eD (n:=20) c1 (by omega);refine bq rfl (dB hB c1 (1+l) j _ 20 (by rw[aQ];exact g _) (by omega) (by omega)) ?_;simp -implicitDefEqProofs (disch:=omega) only[go_sem,n3,n4,n5,n6,n7,n8,n9,n10,n11,n12]
  (repeat(with_reducible refine And.intro ?_ ?_;focus first|omega|rfl|assumption|exact⟨_,rfl,rfl⟩|(simp;omega)|(simp;done)))
  refine au (mJ ((aD 20 c1).1-5)) ?_;simp -implicitDefEqProofs (disch:=omega) only[go_sem,n3,n4,n5,n6,n7,n8,n9,n10,n11,n12];rw[hq];refine⟨rfl,[_,_,_,_,_,_,_],_,_,rfl,rfl,.inr ⟨rfl,fun e he=>by cases he⟩,.inr ⟨rfl,fun e he=>by cases he⟩⟩
 |succ n ih=>
  intro vars c l j S hv hk;have g:∀x:Ab.Obj,aN (aP S (l,j) x) (l,j)=some x:=fun x=>bP _ _ _ _ hk;have hx:=eD (n:=13) c (by omega);obtain⟨k,hkd⟩:∃k,k=(aD 13 c).1:=⟨_,rfl⟩;obtain⟨c1,hc1⟩:∃c1,c1=(aD 13 c).2:=⟨_,rfl⟩;have ih1:=fun vars c l j S hv hk=>oH (ih vars c l j S hv hk);rw[fE,<-hkd,<-hc1];obtain⟨q,hq⟩:∃q,q=iX k (fE n) vars c1:=⟨_,rfl⟩;rw[<-hq];refine yT (rs:=[.cell 6 83]) zmx func83 ntmps83 rfl rfl rfl rfl rfl ?_;simp -implicitDefEqProofs (disch:=omega) only[go_sem];refine bq rfl (dB hB c (1+l) j _ 13 (by rw[aQ];exact hk) (by omega) (by omega)) ?_;rw[<-hkd,<-hc1];have d0:decide (((n+1:Nat):Int)<=0)=false:=decide_eq_false (by omega)
  have d1:((n+1:Nat):Int)-1=(n:Int):=by omega
  simp -implicitDefEqProofs (disch:=omega) only[go_sem,d0]
  have hm:∀y∈vars.map encS,y.length=1:=by
   intro y hy;obtain⟨z,_,rfl⟩:=cp.1 hy;rfl
  with_reducible refine aj (fun hb=> ?_) (fun hb=> ?_)<;>have h:=hb<;>(try simp only[wf_preprocess] at h)<;>simp -implicitDefEqProofs (disch:=omega) only[go_sem,hb,d1]<;>(repeat(with_reducible refine And.intro ?_ ?_;focus first|omega|rfl|assumption|exact⟨_,rfl,rfl⟩|(simp;omega)|(simp;done)))
  ·subst h;simp only[iX,reduceIte] at hq;refine bq rfl (dB hB c1 (1+l) j _ 2 (by rw[aQ];exact g _) (by omega) (by omega)) ?_;simp -implicitDefEqProofs (disch:=omega) only[go_sem,d1];rw[hq];refine⟨rfl,[_,_,_,_,_,_,_],_,_,rfl,rfl,.inr ⟨rfl,fun e he=>by cases he⟩,.inr ⟨rfl,fun e he=>by cases he⟩⟩
  have e1:=h
  with_reducible refine aj (fun hb=> ?_) (fun hb=> ?_)<;>have h:=hb<;>(try simp only[wf_preprocess] at h)<;>simp -implicitDefEqProofs (disch:=omega) only[go_sem,hb,d1]<;>(repeat(with_reducible refine And.intro ?_ ?_;focus first|omega|rfl|assumption|exact⟨_,rfl,rfl⟩|(simp;omega)|(simp;done)))
  ·subst h
   with_reducible refine aj (fun hb=> ?_) (fun hb=> ?_)<;>have h:=hb<;>(try simp only[wf_preprocess] at h)<;>simp -implicitDefEqProofs (disch:=omega) only[go_sem,hb,d1]<;>(repeat(with_reducible refine And.intro ?_ ?_;focus first|omega|rfl|assumption|exact⟨_,rfl,rfl⟩|(simp;omega)|(simp;done)))
   ·have hl:0<vars.length:=by omega
    simp only[iX,reduceIte,Int.reduceEq,false_or,or_false,or_self,false_and,true_and,if_pos hl] at hq;refine dJ [true] rfl (dU hB c1 (1+l) j _ vars (by rw[aQ];exact g _) (by omega) (by omega)) ?_;simp -implicitDefEqProofs (disch:=omega) only[go_sem,d1];refine au (pR (bD vars c1).1) ?_;simp -implicitDefEqProofs (disch:=omega) only[go_sem,d1];rw[hq];refine⟨rfl,[_,_,_,_,_,_,_],_,_,rfl,rfl,.inr ⟨rfl,fun e he=>by cases he⟩,.inr ⟨rfl,fun e he=>by cases he⟩⟩
   ·have hl:¬0<vars.length:=by omega
    simp only[iX,reduceIte,Int.reduceEq,false_or,or_false,or_self,false_and,true_and,if_neg hl] at hq;have hx2:=eD (n:=20) c1 (by omega);refine bq rfl (dB hB c1 (1+l) j _ 20 (by rw[aQ];exact g _) (by omega) (by omega)) ?_;simp -implicitDefEqProofs (disch:=omega) only[go_sem,d1]
    (repeat(with_reducible refine And.intro ?_ ?_;focus first|omega|rfl|assumption|exact⟨_,rfl,rfl⟩|(simp;omega)|(simp;done)))
    refine au (mJ ((aD 20 c1).1-5)) ?_;simp -implicitDefEqProofs (disch:=omega) only[go_sem,d1];rw[hq];refine⟨rfl,[_,_,_,_,_,_,_],_,_,rfl,rfl,.inr ⟨rfl,fun e he=>by cases he⟩,.inr ⟨rfl,fun e he=>by cases he⟩⟩
  have e2:=h
  with_reducible refine aj (fun hb=> ?_) (fun hb=> ?_)<;>have h:=hb<;>(try simp only[wf_preprocess] at h)<;>simp -implicitDefEqProofs (disch:=omega) only[go_sem,hb,d1]<;>(repeat(with_reducible refine And.intro ?_ ?_;focus first|omega|rfl|assumption|exact⟨_,rfl,rfl⟩|(simp;omega)|(simp;done)))
  ·subst h
   with_reducible refine aj (fun hb=> ?_) (fun hb=> ?_)<;>have h:=hb<;>(try simp only[wf_preprocess] at h)<;>simp -implicitDefEqProofs (disch:=omega) only[go_sem,hb,d1]<;>(repeat(with_reducible refine And.intro ?_ ?_;focus first|omega|rfl|assumption|exact⟨_,rfl,rfl⟩|(simp;omega)|(simp;done)))
   ·have hl:0<vars.length:=by omega
    simp only[iX,reduceIte,Int.reduceEq,false_or,or_false,or_self,false_and,true_and,if_pos hl] at hq;refine dJ [true] rfl (dU hB c1 (1+l) j _ vars (by rw[aQ];exact g _) (by omega) (by omega)) ?_;simp -implicitDefEqProofs (disch:=omega) only[go_sem,d1];refine au (pR (bD vars c1).1) ?_;simp -implicitDefEqProofs (disch:=omega) only[go_sem,d1];rw[hq];refine⟨rfl,[_,_,_,_,_,_,_],_,_,rfl,rfl,.inr ⟨rfl,fun e he=>by cases he⟩,.inr ⟨rfl,fun e he=>by cases he⟩⟩
   ·have hl:¬0<vars.length:=by omega
    simp only[iX,reduceIte,Int.reduceEq,false_or,or_false,or_self,false_and,true_and,if_neg hl] at hq;have hx2:=eD (n:=20) c1 (by omega);refine bq rfl (dB hB c1 (1+l) j _ 20 (by rw[aQ];exact g _) (by omega) (by omega)) ?_;simp -implicitDefEqProofs (disch:=omega) only[go_sem,d1]
    (repeat(with_reducible refine And.intro ?_ ?_;focus first|omega|rfl|assumption|exact⟨_,rfl,rfl⟩|(simp;omega)|(simp;done)))
    refine au (mJ ((aD 20 c1).1-5)) ?_;simp -implicitDefEqProofs (disch:=omega) only[go_sem,d1];rw[hq];refine⟨rfl,[_,_,_,_,_,_,_],_,_,rfl,rfl,.inr ⟨rfl,fun e he=>by cases he⟩,.inr ⟨rfl,fun e he=>by cases he⟩⟩
  have e3:=h
  with_reducible refine aj (fun hb=> ?_) (fun hb=> ?_)<;>have h:=hb<;>(try simp only[wf_preprocess] at h)<;>simp -implicitDefEqProofs (disch:=omega) only[go_sem,hb,d1]<;>(repeat(with_reducible refine And.intro ?_ ?_;focus first|omega|rfl|assumption|exact⟨_,rfl,rfl⟩|(simp;omega)|(simp;done)))
  ·subst h;simp only[iX,reduceIte,Int.reduceEq,false_or,or_false,or_self,false_and] at hq;refine dJ [true] rfl (dU hB c1 (1+l) j _ rH (by rw[aQ];exact g _) (by decide) (by decide)) ?_;simp -implicitDefEqProofs (disch:=omega) only[go_sem,d1];refine dJ [true] rfl (ih1 vars (bD rH c1).2 (1+l) j _ (by first|omega|(simp only[ab,aa,ae];omega)) (by rw[aQ];exact g _)) ?_;simp -implicitDefEqProofs (disch:=omega) only[go_sem,d1]
   (repeat(with_reducible refine And.intro ?_ ?_;focus first|omega|rfl|assumption|exact⟨_,rfl,rfl⟩|(simp;omega)|(simp;done)))
   refine bq rfl (sS 4 (bD rH c1).1 [(fE n vars (bD rH c1).2).1] (by simp only[af,ap,ak.aB,ah.aB,az,ba]) (by simp) (.inr rfl)) ?_;simp -implicitDefEqProofs (disch:=omega) only[go_sem,d1];rw[hq];refine⟨rfl,[_,_,_,_,_,_,_],_,_,rfl,rfl,.inl ⟨1,?_,?_⟩,.inl ⟨2,?_,?_⟩⟩<;>simp only[lg,nU,nV,af,ap,ak.aB,qj,ah.aB,encS,az,ba]<;>rfl
  have e4:=h
  with_reducible refine aj (fun hb=> ?_) (fun hb=> ?_)<;>have h:=hb<;>(try simp only[wf_preprocess] at h)<;>simp -implicitDefEqProofs (disch:=omega) only[go_sem,hb,d1]<;>(repeat(with_reducible refine And.intro ?_ ?_;focus first|omega|rfl|assumption|exact⟨_,rfl,rfl⟩|(simp;omega)|(simp;done)))
  ·subst h;simp only[iX,reduceIte,Int.reduceEq,false_or,or_false,or_self,false_and] at hq;refine dJ [true] rfl (dU hB c1 (1+l) j _ uJ (by rw[aQ];exact g _) (by decide) (by decide)) ?_;simp -implicitDefEqProofs (disch:=omega) only[go_sem,d1];refine dJ [true] rfl (ih1 vars (bD uJ c1).2 (1+l) j _ (by first|omega|(simp only[ab,aa,ae];omega)) (by rw[aQ];exact g _)) ?_;simp -implicitDefEqProofs (disch:=omega) only[go_sem,d1];refine dJ [true] rfl (ih1 vars (fE n vars (bD uJ c1).2).2 (1+l) j _ (by first|omega|(simp only[ab,aa,ae];omega)) (by rw[aQ];exact g _)) ?_;simp -implicitDefEqProofs (disch:=omega) only[go_sem,d1]
   (repeat(with_reducible refine And.intro ?_ ?_;focus first|omega|rfl|assumption|exact⟨_,rfl,rfl⟩|(simp;omega)|(simp;done)))
   rw[hq];refine⟨rfl,[_,_,_,_,_,_,_],_,_,rfl,rfl,.inr ⟨?_,xC _⟩,.inr ⟨rfl,fun e he=>by cases he⟩⟩<;>simp only[lg,nU,nV,af,ap,ak.aB,qj,ah.aB,encS,az,ba]<;>rfl
  have e5:=h
  with_reducible refine aj (fun hb=> ?_) (fun hb=> ?_)<;>have h:=hb<;>(try simp only[wf_preprocess] at h)<;>simp -implicitDefEqProofs (disch:=omega) only[go_sem,hb,d1]<;>(repeat(with_reducible refine And.intro ?_ ?_;focus first|omega|rfl|assumption|exact⟨_,rfl,rfl⟩|(simp;omega)|(simp;done)))
  ·subst h;simp only[iX,reduceIte,Int.reduceEq,false_or,or_false,or_self,false_and] at hq;refine dJ [true] rfl (ih1 vars c1 (1+l) j _ (by first|omega|(simp only[ab,aa,ae];omega)) (by rw[aQ];exact g _)) ?_;simp -implicitDefEqProofs (disch:=omega) only[go_sem,d1];refine dJ [true] rfl (ih1 vars (fE n vars c1).2 (1+l) j _ (by first|omega|(simp only[ab,aa,ae];omega)) (by rw[aQ];exact g _)) ?_;simp -implicitDefEqProofs (disch:=omega) only[go_sem,d1]
   (repeat(with_reducible refine And.intro ?_ ?_;focus first|omega|rfl|assumption|exact⟨_,rfl,rfl⟩|(simp;omega)|(simp;done)))
   refine bq rfl (sS 6 [99,111,110,115] [(fE n vars c1).1,(fE n vars (fE n vars c1).2).1] (by simp only[af,ap,ak.aB,ah.aB,az,ba]) (by simp) (.inr rfl)) ?_;simp -implicitDefEqProofs (disch:=omega) only[go_sem,d1];rw[hq];refine⟨rfl,[_,_,_,_,_,_,_],_,_,rfl,rfl,.inl ⟨1,?_,?_⟩,.inl ⟨2,?_,?_⟩⟩<;>simp only[lg,nU,nV,af,ap,ak.aB,qj,ah.aB,encS,az,ba]<;>rfl
  have e6:=h
  with_reducible refine aj (fun hb=> ?_) (fun hb=> ?_)<;>have h:=hb<;>(try simp only[wf_preprocess] at h)<;>simp -implicitDefEqProofs (disch:=omega) only[go_sem,hb,d1]<;>(repeat(with_reducible refine And.intro ?_ ?_;focus first|omega|rfl|assumption|exact⟨_,rfl,rfl⟩|(simp;omega)|(simp;done)))
  ·subst h;simp only[iX,reduceIte,Int.reduceEq,false_or,or_false,or_self,false_and] at hq;refine dJ [true] rfl (ih1 vars c1 (1+l) j _ (by first|omega|(simp only[ab,aa,ae];omega)) (by rw[aQ];exact g _)) ?_;simp -implicitDefEqProofs (disch:=omega) only[go_sem,d1];refine dJ [true] rfl (ih1 vars (fE n vars c1).2 (1+l) j _ (by first|omega|(simp only[ab,aa,ae];omega)) (by rw[aQ];exact g _)) ?_;simp -implicitDefEqProofs (disch:=omega) only[go_sem,d1];have ih2:=fun c l j S hk=>ih1 (vars++[[104],[116]]) c l j S (by simp only[ab,aa,ae];omega) hk;simp only[bc,af,ap,encS] at ih2;refine dJ [true] rfl (ih2 (fE n vars (fE n vars c1).2).2 (1+l) j _ (by rw[aQ];exact g _)) ?_;simp -implicitDefEqProofs (disch:=omega) only[go_sem,d1]
   (repeat(with_reducible refine And.intro ?_ ?_;focus first|omega|rfl|assumption|exact⟨_,rfl,rfl⟩|(simp;omega)|(simp;done)))
   rw[hq];refine⟨rfl,[_,_,_,_,_,_,_],_,_,rfl,rfl,.inr ⟨?_,xC _⟩,.inr ⟨?_,XO _⟩⟩<;>simp only[lg,nU,nV,af,ap,ak.aB,qj,ah.aB,encS,az,ba]<;>rfl
  have e7:=h
  with_reducible refine aj (fun hb=> ?_) (fun hb=> ?_)<;>have h:=hb<;>(try simp only[wf_preprocess] at h)<;>simp -implicitDefEqProofs (disch:=omega) only[go_sem,hb,d1]<;>(repeat(with_reducible refine And.intro ?_ ?_;focus first|omega|rfl|assumption|exact⟨_,rfl,rfl⟩|(simp;omega)|(simp;done)))
  ·subst h;simp only[iX,reduceIte,Int.reduceEq,false_or,or_false,or_self,false_and] at hq;refine dJ [true] rfl (ih1 vars c1 (1+l) j _ (by first|omega|(simp only[ab,aa,ae];omega)) (by rw[aQ];exact g _)) ?_;simp -implicitDefEqProofs (disch:=omega) only[go_sem,d1];refine⟨hm,⟨_,rfl,rfl⟩,fun y hy=>absurd hy List.not_mem_nil,by omega,by simp,⟨_,rfl,rfl⟩,by omega,?_⟩;have ih2:=fun c l j S hk=>ih1 (vars++[[121]]) c l j S (by simp only[ab,aa,ae];omega) hk;simp only[bc,af,ap,encS] at ih2;refine dJ [true] rfl (ih2 (fE n vars c1).2 (1+l) j _ (by rw[aQ];exact g _)) ?_;simp -implicitDefEqProofs (disch:=omega) only[go_sem,d1]
   (repeat(with_reducible refine And.intro ?_ ?_;focus first|omega|rfl|assumption|exact⟨_,rfl,rfl⟩|(simp;omega)|(simp;done)))
   refine bq rfl (sS 8 [121] [(fE n vars c1).1,(fE n (vars++[[121]]) (fE n vars c1).2).1] (by simp only[af,ap,ak.aB,ah.aB,az,ba]) (by simp) (.inr rfl)) ?_;simp -implicitDefEqProofs (disch:=omega) only[go_sem,d1];rw[hq];refine⟨rfl,[_,_,_,_,_,_,_],_,_,rfl,rfl,.inl ⟨2,?_,?_⟩,.inl ⟨3,?_,?_⟩⟩<;>simp only[lg,nU,nV,af,ap,ak.aB,qj,ah.aB,encS,az,ba]<;>rfl
  have e8:=h
  with_reducible refine aj (fun hb=> ?_) (fun hb=> ?_)<;>have h:=hb<;>(try simp only[wf_preprocess] at h)<;>simp -implicitDefEqProofs (disch:=omega) only[go_sem,hb,d1]<;>(repeat(with_reducible refine And.intro ?_ ?_;focus first|omega|rfl|assumption|exact⟨_,rfl,rfl⟩|(simp;omega)|(simp;done)))
  ·subst h;simp only[iX,reduceIte,Int.reduceEq,false_or,or_false,or_self,false_and] at hq;refine dJ [true] rfl (ih1 vars c1 (1+l) j _ (by first|omega|(simp only[ab,aa,ae];omega)) (by rw[aQ];exact g _)) ?_;simp -implicitDefEqProofs (disch:=omega) only[go_sem,d1];refine dJ [true] rfl (ih1 vars (fE n vars c1).2 (1+l) j _ (by first|omega|(simp only[ab,aa,ae];omega)) (by rw[aQ];exact g _)) ?_;simp -implicitDefEqProofs (disch:=omega) only[go_sem,d1];refine dJ [true] rfl (ih1 vars (fE n vars (fE n vars c1).2).2 (1+l) j _ (by first|omega|(simp only[ab,aa,ae];omega)) (by rw[aQ];exact g _)) ?_;simp -implicitDefEqProofs (disch:=omega) only[go_sem,d1]
   (repeat(with_reducible refine And.intro ?_ ?_;focus first|omega|rfl|assumption|exact⟨_,rfl,rfl⟩|(simp;omega)|(simp;done)))
   refine bq rfl (sS 9 [] [(fE n vars c1).1,(fE n vars (fE n vars c1).2).1,(fE n vars (fE n vars (fE n vars c1).2).2).1] (by simp only[af,ap,ak.aB,ah.aB,az,ba]) (by simp) (.inr rfl)) ?_;simp -implicitDefEqProofs (disch:=omega) only[go_sem,d1];rw[hq];refine⟨rfl,[_,_,_,_,_,_,_],_,_,rfl,rfl,.inl ⟨1,?_,?_⟩,.inl ⟨2,?_,?_⟩⟩<;>simp only[lg,nU,nV,af,ap,ak.aB,qj,ah.aB,encS,az,ba]<;>rfl
  have e9:=h
  with_reducible refine aj (fun hb=> ?_) (fun hb=> ?_)<;>have h:=hb<;>(try simp only[wf_preprocess] at h)<;>simp -implicitDefEqProofs (disch:=omega) only[go_sem,hb,d1]<;>(repeat(with_reducible refine And.intro ?_ ?_;focus first|omega|rfl|assumption|exact⟨_,rfl,rfl⟩|(simp;omega)|(simp;done)))
  ·subst h;simp only[iX,reduceIte,Int.reduceEq,false_or,or_false,or_self,false_and] at hq;refine dJ [true] rfl (dU hB c1 (1+l) j _ qh (by rw[aQ];exact g _) (by decide) (by decide)) ?_;simp -implicitDefEqProofs (disch:=omega) only[go_sem,d1];refine dJ [true] rfl (ih1 vars (bD qh c1).2 (1+l) j _ (by first|omega|(simp only[ab,aa,ae];omega)) (by rw[aQ];exact g _)) ?_;simp -implicitDefEqProofs (disch:=omega) only[go_sem,d1];refine dJ [true] rfl (ih1 vars (fE n vars (bD qh c1).2).2 (1+l) j _ (by first|omega|(simp only[ab,aa,ae];omega)) (by rw[aQ];exact g _)) ?_;simp -implicitDefEqProofs (disch:=omega) only[go_sem,d1]
   (repeat(with_reducible refine And.intro ?_ ?_;focus first|omega|rfl|assumption|exact⟨_,rfl,rfl⟩|(simp;omega)|(simp;done)))
   refine bq rfl (sS 10 (bD qh c1).1 [(fE n vars (bD qh c1).2).1,(fE n vars (fE n vars (bD qh c1).2).2).1] (by simp only[af,ap,ak.aB,ah.aB,az,ba]) (by simp) (.inr rfl)) ?_;simp -implicitDefEqProofs (disch:=omega) only[go_sem,d1];rw[hq];refine⟨rfl,[_,_,_,_,_,_,_],_,_,rfl,rfl,.inl ⟨1,?_,?_⟩,.inl ⟨2,?_,?_⟩⟩<;>simp only[lg,nU,nV,af,ap,ak.aB,qj,ah.aB,encS,az,ba]<;>rfl
  have e10:=h
  with_reducible refine aj (fun hb=> ?_) (fun hb=> ?_)<;>have h:=hb<;>(try simp only[wf_preprocess] at h)<;>simp -implicitDefEqProofs (disch:=omega) only[go_sem,hb,d1]<;>(repeat(with_reducible refine And.intro ?_ ?_;focus first|omega|rfl|assumption|exact⟨_,rfl,rfl⟩|(simp;omega)|(simp;done)))
  ·subst h;simp only[iX,reduceIte,Int.reduceEq,false_or,or_false,or_self,false_and] at hq;refine dJ [true] rfl (ih1 vars c1 (1+l) j _ (by first|omega|(simp only[ab,aa,ae];omega)) (by rw[aQ];exact g _)) ?_;simp -implicitDefEqProofs (disch:=omega) only[go_sem,d1]
   (repeat(with_reducible refine And.intro ?_ ?_;focus first|omega|rfl|assumption|exact⟨_,rfl,rfl⟩|(simp;omega)|(simp;done)))
   rw[hq];refine⟨rfl,[_,_,_,_,_,_,_],_,_,rfl,rfl,.inr ⟨?_,xC _⟩,.inr ⟨rfl,fun e he=>by cases he⟩⟩<;>simp only[lg,nU,nV,af,ap,ak.aB,qj,ah.aB,encS,az,ba]<;>rfl
  have e11:=h
  with_reducible refine aj (fun hb=> ?_) (fun hb=> ?_)<;>have h:=hb<;>(try simp only[wf_preprocess] at h)<;>simp -implicitDefEqProofs (disch:=omega) only[go_sem,hb,d1]<;>(repeat(with_reducible refine And.intro ?_ ?_;focus first|omega|rfl|assumption|exact⟨_,rfl,rfl⟩|(simp;omega)|(simp;done)))
  ·subst h;simp only[iX,reduceIte,Int.reduceEq,false_or,or_false,or_self,false_and] at hq;refine dJ [true] rfl (oG (zJ hB (vars:=aL) (by decide) 1 c1 (1+l) j _ (by rw[aQ];exact g _) (by omega))) ?_;simp -implicitDefEqProofs (disch:=omega) only[go_sem,d1];refine dJ [true] rfl (ih1 vars (jV aL 1 c1).2 (1+l) j _ (by first|omega|(simp only[ab,aa,ae];omega)) (by rw[aQ];exact g _)) ?_;simp -implicitDefEqProofs (disch:=omega) only[go_sem,d1]
   (repeat(with_reducible refine And.intro ?_ ?_;focus first|omega|rfl|assumption|exact⟨_,rfl,rfl⟩|(simp;omega)|(simp;done)))
   rw[hq];refine⟨rfl,[_,_,_,_,_,_,_],_,_,rfl,rfl,.inr ⟨?_,xC _⟩,.inr ⟨rfl,fun e he=>by cases he⟩⟩<;>simp only[lg,nU,nV,af,ap,ak.aB,qj,ah.aB,encS,az,ba]<;>rfl
  have e12:=h;simp only[iX,if_neg e1,e2,e3,false_or,or_self,false_and,reduceIte,if_neg e4,if_neg e5,if_neg e6,if_neg e7,if_neg e8,if_neg e9,if_neg e10,if_neg e11,if_neg e12] at hq;have hx2:=eD (n:=20) c1 (by omega);refine bq rfl (dB hB c1 (1+l) j _ 20 (by rw[aQ];exact g _) (by omega) (by omega)) ?_;simp -implicitDefEqProofs (disch:=omega) only[go_sem,d1]
  (repeat(with_reducible refine And.intro ?_ ?_;focus first|omega|rfl|assumption|exact⟨_,rfl,rfl⟩|(simp;omega)|(simp;done)))
  refine au (mJ ((aD 20 c1).1-5)) ?_;simp -implicitDefEqProofs (disch:=omega) only[go_sem,d1];rw[hq];refine⟨rfl,[_,_,_,_,_,_,_],_,_,rfl,rfl,.inr ⟨rfl,fun e he=>by cases he⟩,.inr ⟨rfl,fun e he=>by cases he⟩⟩
theorem lq:∀a b:List (List D),aH (a++b)=aH a+aH b
 |[],b=>by simp[aH]
 |r::a,b=>by rw[az,aH,aH,lq a b];omega
section
variable {P:Program} {N:Nat} {w w':World} {σ σ':Nat->Nat} {S S':Store} {β β':Hs} {s:St} {a:Act}
def C.mv(n j m:Nat):C->C
 | .eP (0,i)=>if i=m then .eP (0,j) else if i<n/\i≠j then .eP (0,i) else .any
 | .bM (0,i) es=>if i<n/\i≠j then .bM (0,i) es else .any
 | .ptr (0,i) off=>if i<n/\i≠j then .ptr (0,i) off else .any
 | .iO (0,i) x off=>if i<n/\i≠j then .iO (0,i) x off else .any
 | .mp (0,i)=>if i<n/\i≠j then .mp (0,i) else .any
 | .fn _ _=>.any
 | .xp (0,i) r p=>if i<n/\i≠j then .xp (0,i) r p else .any
 | .xq (0,i) r p z x off=>if i<n/\i≠j then .xq (0,i) r p z x off else .any
 | .oW (0,i) q u=>if i<n/\i≠j then .oW (0,i) q u else .any
 |c=>c
theorem He{α:Type}{own:List α}{Ω:List (List α)}{n j i:Nat}{o:α}(h:i<n/\i≠j):aN ((own.take n).set j o::Ω) (0,i)=aN (own::Ω) (0,i):=by
 rw[aJ,aJ,eA (Ne.symm h.2),bu h.1]
theorem aeY{own own':List Obj}{Ω:Store}{bo:List Value}{bΩ:Hs}{n j m z:Nat}{es:List (List D)}{hm:Value}(ho:own[m]? =some (.cZ z es))(hb:bo[m]? =some hm)(hjn:j<n)(hnl:n<=own.length)(hlen:bo.length=own.length)
 (hown:∀i,i<n->i≠j->∃o o',own[i]? =some o/\own'[i]? =some o'/\(∀z es,lT o' z es->lT o z es)/\(∀z es,o'=.cZ z es->o=.cZ z es)/\(∀m,o'=.mp m->o=.mp m)/\(∀cs,o'=.box cs->∃cs',o=.box cs')/\(∀rs,o'=.xf rs->o=.xf rs))
 (hj:own'[j]? =some (.cZ z es)){c:C}{v:Value}(hc:fu w σ (own::Ω) (bo::bΩ) c v):fu w σ (own'::Ω) ((bo.take n).set j hm::bΩ) (c.mv n j m) v:=by
 have hgo:∀i,i<n/\i≠j->aN ((bo.take n).set j hm::bΩ) (0,i)=aN (bo::bΩ) (0,i):=fun i h=>He h
 cases c with
 |d x=>exact hc
 |any=>trivial
 |bF es=>exact hc
 |iY cs=>exact hc
 |kF q es=>exact hc
 |fn f caps=>trivial
 |eP k=>
  obtain⟨l,i⟩:=k
  cases l with
  |succ l=>exact hc
  |zero=>
   simp only[C.mv];obtain⟨o,h1,h2⟩:=hc;rw[aJ] at h1;split
   ·rename_i e;subst e;rw[ho] at h1;cases h1;refine⟨_,by rw[aJ];exact hj,fun aM es' e=> ?_⟩;have:=h2 _ _ rfl;rw[aJ,hb] at this;rw[aJ,cW (by rw[bk];omega)];exact this
   ·split
    ·rename_i h;obtain⟨o1,o',q1,q2,_,q4,_⟩:=hown i h.1 h.2;rw[q1] at h1;cases h1;exact⟨o',by rw[aJ];exact q2,fun aM es' e=>by rw[hgo i h];exact h2 _ _ (q4 _ _ e)⟩
    ·trivial
 |bM k es0=>
  obtain⟨l,i⟩:=k
  cases l with
  |succ l=>exact hc
  |zero=>
   simp only[C.mv];split
   ·rename_i h;obtain⟨h0,o,h1,h2⟩:=hc;rw[aJ] at h1;obtain⟨o1,o',q1,q2,q3,_⟩:=hown i h.1 h.2;rw[q1] at h1;cases h1;exact⟨h0,o',by rw[aJ];exact q2,fun aM es' e=>by rw[hgo i h];exact h2 _ _ (q3 _ _ e)⟩
   ·trivial
 |oW k q u=>
  obtain⟨l,i⟩:=k
  cases l with
  |succ l=>exact hc
  |zero=>
   simp only[C.mv];split
   ·rename_i h;obtain⟨h0,o,h1,h2⟩:=hc;rw[aJ] at h1;obtain⟨o1,o',q1,q2,q3,_⟩:=hown i h.1 h.2;rw[q1] at h1;cases h1;exact⟨h0,o',by rw[aJ];exact q2,fun aM es' e=>by rw[hgo i h];exact h2 _ _ (q3 _ _ e)⟩
   ·trivial
 |ptr k off=>
  obtain⟨l,i⟩:=k
  cases l with
  |succ l=>exact hc
  |zero=>
   simp only[C.mv];split
   ·rename_i h;obtain⟨o,h1,h2⟩:=hc;rw[aJ] at h1;obtain⟨o1,o',q1,q2,_,_,_,q6,_⟩:=hown i h.1 h.2;rw[q1] at h1;cases h1;refine⟨o',by rw[aJ];exact q2,fun cs e=> ?_⟩;obtain⟨cs',e'⟩:=q6 cs e;rw[hgo i h];exact h2 _ e'
   ·trivial
 |iO k x off=>
  obtain⟨l,i⟩:=k
  cases l with
  |succ l=>exact hc
  |zero=>
   simp only[C.mv];split
   ·rename_i h;obtain⟨o,h1,h2⟩:=hc;rw[aJ] at h1;obtain⟨o1,o',q1,q2,_,q4,_⟩:=hown i h.1 h.2;rw[q1] at h1;cases h1;exact⟨o',by rw[aJ];exact q2,fun aM es' e=>by rw[hgo i h];exact h2 _ _ (q4 _ _ e)⟩
   ·trivial
 |mp k=>
  obtain⟨l,i⟩:=k
  cases l with
  |succ l=>exact hc
  |zero=>
   simp only[C.mv];split
   ·rename_i h;obtain⟨o,h1,h2⟩:=hc;rw[aJ] at h1;obtain⟨o1,o',q1,q2,_,_,q5,_⟩:=hown i h.1 h.2;rw[q1] at h1;cases h1;exact⟨o',by rw[aJ];exact q2,fun m e=>by rw[hgo i h];exact h2 _ (q5 _ e)⟩
   ·trivial
 |xp k r p=>
  obtain⟨l,i⟩:=k
  cases l with
  |succ l=>exact hc
  |zero=>
   simp only[C.mv];split
   ·rename_i h;obtain⟨o,h1,h2⟩:=hc;rw[aJ] at h1;obtain⟨o1,o',q1,q2,_,_,_,_,q7⟩:=hown i h.1 h.2;rw[q1] at h1;cases h1;exact⟨o',by rw[aJ];exact q2,fun rs e=>by rw[hgo i h];exact h2 _ (q7 _ e)⟩
   ·trivial
 |xq k r p z x off=>
  obtain⟨l,i⟩:=k
  cases l with
  |succ l=>exact hc
  |zero=>
   simp only[C.mv];split
   ·rename_i h;obtain⟨o,h1,h2⟩:=hc;rw[aJ] at h1;obtain⟨o1,o',q1,q2,_,_,_,_,q7⟩:=hown i h.1 h.2;rw[q1] at h1;cases h1;exact⟨o',by rw[aJ];exact q2,fun rs e=>by rw[hgo i h];exact h2 _ (q7 _ e)⟩
   ·trivial
theorem XP{tm:List (Nat×V)}{own:List Obj}{Ω:Store}(n j m z:Nat)(es:List (List D))(ho:own[m]? =some (.cZ z es))(hjn:j<n)(hnm:n<=m):
 gQ N ⟨tm,own::Ω⟩ ⟨tm.map fun x=>(x.1,x.2.gN (C.mv n j m)),((own.take n).map (Obj.gN (C.mv n j m))).set j (.cZ z es)::Ω⟩:=by
 intro a w σ β hR;obtain⟨bo,bΩ,rfl,hlen⟩:=frames hR;have hml:=(ai.1 ho).1;obtain⟨hh,hb,qx⟩:=hR.S.obj (0,m) _ (by rw[aJ];exact ho);rw[aJ] at hb;obtain⟨own',hown'⟩:∃own',own'=((own.take n).map (Obj.gN (C.mv n j m))).set j (.cZ z es):=⟨_,rfl⟩
 have hj:own'[j]? =some (.cZ z es):=by
  rw[hown',cW (by rw[al,bk];omega)]
 have hat:∀i,i<n->i≠j->∀o,own[i]? =some o->own'[i]? =some (o.gN (C.mv n j m)):=fun i h1 h2 o h3=>by
  rw[hown',eA (Ne.symm h2),aV,bu h1,h3];rfl
 have hold:∀i o',own'[i]? =some o'->(i=j/\o'=.cZ z es)\/(i<n/\i≠j/\∃o,own[i]? =some o/\o'=o.gN (C.mv n j m)):=fun i o' h=>by
  by_cases e:i=j
  ·subst e;rw[hj] at h;cases h;exact .inl ⟨rfl,rfl⟩
  ·have hi:i<n:=by
    have:=(ai.1 h).1;rw[hown',cn,al,bk] at this;omega
   have ho':own[i]? =some (own[i]'(by omega)):=ag (by omega);have:=hat i hi e _ ho';rw[h] at this;exact .inr ⟨hi,e,_,ho',cD this⟩
 rw[<-hown']
 have hC:∀(c:C)(v:Value),fu w σ (own::Ω) (bo::bΩ) c v->fu w σ (own'::Ω) ((bo.take n).set j hh::bΩ) (c.mv n j m) v:=fun c v hc=>
  aeY ho hb hjn (by omega) hlen (fun i h1 h2=>⟨_,_,ag (by omega),hat i h1 h2 _ (ag (by omega)),kX (.inr rfl)⟩) hj hc
 have hCs:∀(cs:List C)(vs:List Value),dS w σ (own::Ω) (bo::bΩ) cs vs->dS w σ (own'::Ω) ((bo.take n).set j hh::bΩ) (cs.map (C.mv n j m)) vs:=by
  intro cs vs hc;refine⟨by simpa using hc.1,fun i x hx=> ?_⟩;rw[aV] at hx
  cases hci:cs[i]? with
  |none=>rw[hci] at hx;cases hx
  |some y=>
   rw[hci] at hx;cases hx;obtain⟨v,hv,hr,ho⟩:=hc.2 i y hci;exact⟨v,hv,hC y v hr,ho⟩
 have from_:∀k o',aN (own'::Ω) k=some o'->∃k0 o0,aN (own::Ω) k0=some o0/\aN ((bo.take n).set j hh::bΩ) k=aN (bo::bΩ) k0/\(∀h b,owns o' h b<->owns o0 h b)/\(k0=(if k=(0,j) then(0,m) else k))/\(k.1=0->k=(0,j)\/k.2<n):=by
  rintro⟨l,i⟩ o' h
  cases l with
  |succ l=>exact⟨(l+1,i),o',by rw[bB] at h ⊢;exact h,by rw[bB,bB],fun _ _=>ec,by simp,fun e=>by cases e⟩
  |zero=>
   rw[aJ] at h;rcases hold i o' h with⟨rfl,rfl⟩|⟨hi,hne,o,h1,rfl⟩
   ·exact⟨(0,m),_,by rw[aJ];exact ho,by rw[aJ,aJ,cW (by rw[bk];omega),hb],fun _ _=>ec,by simp,fun _=>.inl rfl⟩
   ·clear h;refine⟨(0,i),o,by rw[aJ];exact h1,He ⟨hi,hne⟩,fun h b=> ?_,by simp[hne],fun _=>.inr hi⟩;clear h1
    cases o with
    |box cs=>cases h<;>first|exact ec|(rename_i x;cases x<;>exact ec)
    |_=>exact ec
 refine⟨σ,(bo.take n).set j hh::bΩ,⟨hR.size,hR.defers,⟨fun k o hk=> ?_,fun k k' o o' h1 h2 b e1 e2 e3 e4 e5 e6=> ?_,⟨by have:=hR.S.shape.1;simpa using this,fun l fr hl=> ?_⟩,hR.S.live,hR.S.qp⟩,fun t=> ?_⟩,⟨aw _,rfl,rfl,fun _ _ _=>⟨rfl,rfl⟩,dR.refl _ _,fun b hb'=>.inl ?_⟩,Keep.refl _ _⟩
 ·obtain⟨l,i⟩:=k
  cases l with
  |succ l=>
   rw[bB] at hk;obtain⟨h,e1,e2⟩:=hR.S.obj (l+1,i) o (by rw[bB];exact hk);exact⟨h,by rw[bB] at e1 ⊢;exact e1,e2⟩
  |zero=>
   rw[aJ] at hk;rcases hold i o hk with⟨rfl,rfl⟩|⟨hi,hne,o0,h1,rfl⟩
   ·exact⟨hh,by rw[aJ,cW (by rw[bk];omega)],qx⟩
   ·obtain⟨h,e1,e2⟩:=hR.S.obj (0,i) o0 (by rw[aJ];exact h1);refine⟨h,(He ⟨hi,hne⟩).trans e1,?_⟩;clear hk h1 e1
    cases o0 with
    |box cs=>
     obtain⟨b,c,t,q1,q2,q3,q4⟩:=e2;exact⟨b,c,t,q1,q2,q3,hCs _ _ q4⟩
    |_=>exact e2
 ·obtain⟨k0,o0,f1,f2,f3,f4,f5⟩:=from_ k o e1;obtain⟨k1,o1,g1,g2,g3,g4,g5⟩:=from_ k' o' e4;rw[f2] at e2;rw[g2] at e5;have:=hR.S.apart k0 k1 o0 o1 h1 h2 b f1 e2 ((f3 _ _).1 e3) g1 e5 ((g3 _ _).1 e6);rw[f4,g4] at this;split at this
  ·rename_i q1;split at this
   ·rename_i q2;rw[q1,q2]
   ·rename_i q2;exfalso
    have hk1:k'.1=0:=by rw[<-this]
    rcases g5 hk1 with q3|q3
    ·exact q2 q3
    ·rw[<-this] at q3;simp only at q3;omega
  ·rename_i q1;split at this
   ·exfalso
    have hk1:k.1=0:=by rw[this]
    rcases f5 hk1 with q3|q3
    ·exact q1 q3
    ·rw[this] at q3;simp only at q3;omega
   ·exact this
 ·cases l with
  |zero=>
   simp at hl;subst hl;exact⟨_,rfl,by rw[hown'];simp[hlen]⟩
  |succ l=>exact hR.S.shape.2 (l+1) fr hl
 ·show cu w σ (own'::Ω) ((bo.take n).set j hh::bΩ) (look (tm.map fun x=>(x.1,x.2.gN (C.mv n j m))) t) _;rw[tX (f:=V.gN (C.mv n j m)) rfl];have ht:=hR.T t
  cases hx:look tm t with
  |c x=>rw[hx] at ht;exact⟨hC x _ ht.1,ht.2⟩
  |agg cs=>rw[hx] at ht;obtain⟨ar,e,hc⟩:=ht;exact⟨ar,e,hCs _ _ hc⟩
  |gq xs=>
   rw[hx] at ht;obtain⟨ar,e,hl,h2⟩:=ht;refine⟨ar,e,by simpa using hl,fun i y hy=> ?_⟩;rw[aV] at hy
   cases hxi:xs[i]? with
   |none=>rw[hxi] at hy;cases hy
   |some z=>
    rw[hxi] at hy;cases hy;obtain⟨u,hu,h3⟩:=h2 i z hxi;refine⟨u,hu,?_⟩;obtain⟨bb,cs⟩:=z
    cases bb with
    |true=>obtain⟨a',e',hcs⟩:=h3;exact⟨a',e',hCs _ _ hcs⟩
    |false=>
     obtain⟨x,e',NZ,ho⟩:=h3;subst e';exact⟨_,rfl,hC x _ NZ,ho⟩
  |any=>trivial
 ·obtain⟨k,o,h1,e1,e2,e3⟩:=hb';obtain⟨k0,o0,f1,f2,f3,_⟩:=from_ k o e1;rw[f2] at e2;exact⟨k0,o0,h1,f1,e2,(f3 _ _).1 e3⟩
theorem Ma{ι:Type}{ts:List Nat}{f:ι->List V}{g:ι->Store}{p:ι->Prop}{μ:ι->Nat}{i:ι}{tm:List (Nat×V)}{own:List Obj}{Ω:Store}(n j m z:Nat)(es:List (List D))(hnd:ts.Nodup)(i':ι)(ho:own[m]? =some (.cZ z es))(hjn:j<n)(hnm:n<=m)(h1:μ i'<μ i)
 (h2:(ts.map (look tm)).map (V.gN (C.mv n j m))=f i')(h3:((own.take n).map (Obj.gN (C.mv n j m))).set j (.cZ z es)::Ω=g i')(h4:p i'):Inv N ts f g p μ i ⟨tm,own::Ω⟩:=by
 refine⟨i',_,h1,XP n j m z es ho hjn hnm,?_,h3,h4⟩;rw[<-h2,List.map_map];refine cG fun t _=> ?_;show look (tm.map fun x=>(x.1,x.2.gN (C.mv n j m))) t=_;rw[tX (f:=V.gN (C.mv n j m)) rfl];rfl
end
section
variable {P:Program} {N:Nat} {S:Store}
theorem Co(r:Nat)(T:Value)(h:nW undef r=some T):False:=by cases h
theorem Z0{c:Code}{Q:Exit->St->Prop}{tm:List (Nat×V)}{Ω:Store}(h:AW P N c Q ⟨tm,[.xf []]::Ω⟩):AW P N c Q ⟨tm,[]::Ω⟩:=by
 refine lK h fun a w σ β hR=> ?_;obtain⟨bo,bΩ,rfl,hlen⟩:=frames hR
 obtain⟨hS',hk,hst⟩:=hR.S.push (o:=.xf []) (h:=undef) (Grow.refl hR.S.live) hlen
  ⟨fun r es e=>by simp at e,fun r T e=>(Co r T e).elim,fun b hb=>by obtain⟨r,T,e,_⟩:=hb;exact(Co r T e).elim,fun r r' T T' x _ e _ _ _=>Co r T e⟩
  (fun b hb=>by obtain⟨r,T,e,_⟩:=hb;exact(Co r T e).elim)
 exact⟨σ,_,⟨hR.size,hR.defers,hS',fun u=>(hR.T u).mono (dR.refl _ _) hk⟩,hst,Keep.refl _ _⟩
end
section
variable {P:Program} {S S':Store} {f:FuncId} {args:List V}
end
section
variable {w:World} {σ:Nat->Nat}
mutual
theorem aeZ{σ2:Nat->Nat}{lo:Nat}(hs:∀b c t fz m,w.heap[b]? =some (.cells c t fz)->σ b=c.size+1+m->lo<=m->σ2 b=σ b):∀(d:D)(n:Nat)(v:Value),lo<=n->lV d=true->dw w σ (nC d n) v->dw w σ2 (nC d n) v
 | .sl es,n,v,hn,hp,h=>by
   rw[nC] at h ⊢;have hrec:=YK hs es (n+1);generalize iK es (n+1)=q at h hrec ⊢
   cases h with
   |wF n a cap=>exact .wF n a cap
   |ol n b off cap z q vals c t hcap hlen hb hσ hfit hc hv hx=>exact .ol n b off cap z q vals c t hcap hlen hb ((hs b c t _ _ hb hσ hn).trans hσ) hfit hc (hrec vals (by omega) (by simpa [lV] using hp) hv) hx
 | .ol m es,n,v,hn,hp,h=>by simp[lV] at hp
 | .b x,n,v,hn,hp,h=>by rw[nC] at h ⊢;cases h;constructor
 | .i k x,n,v,hn,hp,h=>by rw[nC] at h ⊢;cases h;constructor
 | .s l,n,v,hn,hp,h=>by rw[nC] at h ⊢;cases h;constructor
 | .o u,n,v,hn,hp,h=>by simp[lV] at hp
theorem abB{σ2:Nat->Nat}{lo:Nat}(hs:∀b c t fz m,w.heap[b]? =some (.cells c t fz)->σ b=c.size+1+m->lo<=m->σ2 b=σ b):∀(r:List D)(n:Nat)(vals:Nat->Value),lo<=n->gU r=true->(∀(j:Nat)(d:D),(jE r n)[j]? =some d->dw w σ d (vals j))->
 ∀(j:Nat)(d:D),(jE r n)[j]? =some d->dw w σ2 d (vals j)
 |[],n,vals,hn,hp,h,j,d,hd=>by simp[jE] at hd
 |a::r,n,vals,hn,hp,h,j,d,hd=>by
  rw[gU,aq] at hp;rw[jE] at h hd
  cases j with
  |zero=>
   simp at hd;subst hd;exact aeZ hs a n _ hn hp.1 (h 0 _ rfl)
  |succ j=>exact abB hs r (n+vE a) (fun i=>vals (i+1)) (by omega) hp.2 (fun i d hi=>h (i+1) d hi) j d hd
theorem YK{σ2:Nat->Nat}{lo:Nat}(hs:∀b c t fz m,w.heap[b]? =some (.cells c t fz)->σ b=c.size+1+m->lo<=m->σ2 b=σ b):∀(rs:List (List D))(n:Nat)(vals:Nat->Value),lo<=n->gY rs=true->(∀(j:Nat)(d:D),(iK rs n).flatten[j]? =some d->dw w σ d (vals j))->
 ∀(j:Nat)(d:D),(iK rs n).flatten[j]? =some d->dw w σ2 d (vals j)
 |[],n,vals,hn,hp,h,j,d,hd=>by simp[iK] at hd
 |r::rs,n,vals,hn,hp,h,j,d,hd=>by
  rw[gY,aq] at hp;rw[iK,ci] at h hd;by_cases hj:j<(jE r n).length
  ·rw[an hj] at hd;exact abB hs r n vals hn hp.1 (fun j d hd=>h j d (by rw[an (ai.1 hd).1];exact hd)) j d hd
  ·rw[am (by omega)] at hd;have:=YK hs rs (n+uj r) (fun i=>vals ((jE r n).length+i)) (by omega) hp.2 (fun j d hd=>h _ d (by rw[am (by omega),cI];exact hd)) (j-(jE r n).length) d hd
   rwa [show(jE r n).length+(j-(jE r n).length)=j by omega] at this
end
end
section
variable {P:Program}
end
section
variable {P:Program} {N:Nat} {S:Store} {s:St}
end
section
variable {P:Program} {N:Nat} {S:Store}
theorem wo(T:List TypeId){f:FuncId}{fn:Func}{c:Code}{args:List V}{post:V->Store->Prop}{rs:List ResultVar}(fK:P.follows .mixedOrders=true)(hf:P.funcs[f]? =some fn)(hN:fn.ntmps=N)
 (hb:fn.body=some c) (hn:(fn.name== "runtime.NumGoroutine")=false) (hr:fn.results.toList=rs) (hl:Nat.ble args.length N=true) (hok:lH T N c=true)
 (h:jU P N T c (GJ P rs post) ⟨jZ (args.map (V.up 1)) 0,[.xf []]::S⟩):bK P f args S post:=by
 subst hN;subst hr;exact uz hf hb hn (dc hl) (Z0 (ES sG (iy fK c _ _ hok h)))
theorem XQ{c:Code}{Q:Exit->St->Prop}{tm:List (Nat×V)}{Ω:Store}(h:AW P N c Q ⟨tm,[.xf [[]]]::Ω⟩):AW P N c Q ⟨tm,[]::Ω⟩:=by
 refine lK h fun a w σ β hR=> ?_;obtain⟨bo,bΩ,rfl,hlen⟩:=frames hR
 have hroot:∀r T,nW (.tuple #[oo]) r=some T->r=0/\T=oo:=fun r T e=>by
  cases r with
  |zero=>exact⟨rfl,(cD e).symm⟩
  |succ r=>simp[nW] at e
 have hown:∀b,¬jX (.tuple #[oo]) b:=fun b ⟨r,T,e,ho⟩=>by
  obtain⟨_,rfl⟩:=hroot r T e;exact sO ho
 obtain⟨hS',hk,hst⟩:=hR.S.push (o:=.xf [[]]) (h:=.tuple #[oo]) (Grow.refl hR.S.live) hlen
  ⟨fun r es e=>by
    cases r with
    |zero=>cases e;exact⟨oo,rfl,.nil none 0 _ rfl Bp⟩
    |succ r=>simp at e,fun r T e=>by rw[(hroot r T e).1];exact Nat.zero_lt_one,fun b hb=>(hown b hb).elim,fun r r' T T' x hne e e' ho=>by
    obtain⟨_,rfl⟩:=hroot r T e
    exact(sO ho).elim⟩
  (fun b hb=>(hown b hb).elim)
 exact⟨σ,_,⟨hR.size,hR.defers,hS',fun u=>(hR.T u).mono (dR.refl _ _) hk⟩,hst,Keep.refl _ _⟩
theorem Rk(T:List TypeId){f:FuncId}{fn:Func}{c:Code}{args:List V}{post:V->Store->Prop}{rs:List ResultVar}(fK:P.follows .mixedOrders=true)(hf:P.funcs[f]? =some fn)(hN:fn.ntmps=N)
 (hb:fn.body=some c) (hn:(fn.name== "runtime.NumGoroutine")=false) (hr:fn.results.toList=rs) (hl:Nat.ble args.length N=true) (hok:lH T N c=true)
 (h:jU P N T c (GJ P rs post) ⟨jZ (args.map (V.up 1)) 0,[.xf [[]]]::S⟩):bK P f args S post:=by
 subst hN;subst hr;exact uz hf hb hn (dc hl) (XQ (ES sG (iy fK c _ _ hok h)))
end
section
variable {P:Program} {S S1:Store}
theorem bK.of_le{f:FuncId}{args:List V}{t:V}(h:bK P f args S fun r S'=>Less r t/\S'=S1):bK P f args S fun r S'=>r=t/\S'=S1:=
 ⟨h.1,fun w σ β vs hS hv=>(h.2 w σ β vs hS hv).mono fun e w' ⟨v,r,S',σ',β',h1,h2,h3,h4,h5,h6,h7⟩=>⟨v,t,S',σ',β',h1,h2,h3,h4,h6 _ _ _ _ _ h5,rfl,h7⟩⟩
theorem vo{r t:V}(h:FV r=t):Less r t:=fun w σ S β v hr=>by
 rw[<-h];exact LJ hr _ _
end
attribute [go_sem] Bool.or_false Bool.false_or Bool.true_or Bool.or_true
def Ee:aU:=⟨[110,105,108],[]⟩
def wu:aU:=⟨[99,111,110,115],[kT [97],nS [108,105,115,116] [kT [97]]]⟩
def JK:List (List UInt8):=[[99,111,110,115],[],[111,110,101]]
theorem Rl:dO JK:=by unfold dO;decide
def qm{bs:List Int}(k:Int)(c:Cu bs):aZ×Cu bs:=
 if k=0 then(⟨[108,105,115,116],[[97],(bD z8 c).1],[Ee,wu]⟩,(bD z8 c).2) else
 if k=1 then(⟨[108,105,115,116],[[97]],[Ee,wu].take (aD 2 c).1.toNat⟩,(aD 2 c).2) else
 if k=2 then(⟨[108,105,115,116],[[97]],[⟨[110,105,108],[(mI 2 c).1]⟩,wu]⟩,(mI 2 c).2) else
 if k=3 then(⟨[108,105,115,116],[[97]],[⟨(bD JK c).1,[]⟩,wu]⟩,(bD JK c).2) else
 (⟨[108,105,115,116],[[97]],[Ee,wu]⟩,c)
def wz{bs:List Int}(c:Cu bs):aZ×Cu bs:=qm (aD 10 c).1 (aD 10 c).2
theorem IY(s:List UInt8)(l:List ah):(aU.mk s l).sz=s.length+(l.length+zZ l):=Bq _
theorem zK:wu.sz=13:=by
 rw[Bq];simp only[wu,zZ,kR,Cn,aa,ae]
theorem yU:Ee.sz=3:=by rw[Bq];simp[Ee,zZ]
theorem XR{bs:List Int}(c:Cu bs):(wz c).1.sz<=300:=by
 unfold wz;generalize (aD 10 c).1=k;generalize (aD 10 c).2=c1;have h1:=eX c1 Ec;have h2:=eX c1 Rl;have h3:=xB 2 c1
 have h4:Dg ([Ee,wu].take (aD 2 c1).1.toNat)<=16:=by
  have:=eD (n:=2) c1 (by omega)
  have:(aD 2 c1).1.toNat=0\/(aD 2 c1).1.toNat=1:=by omega
  rcases this with e|e<;>rw[e]<;>simp[Dg,yU]
 have h5:([Ee,wu].take (aD 2 c1).1.toNat).length<=2:=List.length_take_le' _ _;unfold qm;split
 ·simp only[sP,Dg,zK,yU,af,ap,eg,List.sum_nil,aa,ae];omega
 split
 ·simp only[sP,af,ap,eg,List.sum_nil,aa,ae];omega
 split
 ·simp only[sP,Dg,IY,zZ,zK,yU,af,ap,eg,List.sum_nil,aa,ae];omega
 split
 ·simp only[sP,Dg,IY,zZ,zK,yU,af,ap,eg,List.sum_nil,aa,ae];omega
 ·simp only[sP,Dg,zK,yU,af,ap,eg,List.sum_nil,aa,ae];omega
section
variable {P:Program} {w w':World} {σ σ':Nat->Nat} {S:Store} {β:Hs}
end
section
variable {P:Program} {w w':World} {σ σ':Nat->Nat} {β:Hs}
theorem Z4{own:List Obj}{Ω:Store}(lab:Option Nat)(j i aM:Nat)(es:List (List D))(cs:List C)(hj:own[j]? =some (.box cs))(hi:cs[i]? =some (match lab with|some n=>.kF n es|none=>.bF es))(hes:∀e∈es,e.length=aM)(hS:dM w σ (own::Ω) β):
 ∃β',dM w σ ((own.set j (.box (cs.set i (.bM (0,own.length) es)))++[gH lab aM es])::Ω) β'/\Step (own::Ω) β σ w ((own.set j (.box (cs.set i (.bM (0,own.length) es)))++[gH lab aM es])::Ω) β' σ w/\Keep (own::Ω) β ((own.set j (.box (cs.set i (.bM (0,own.length) es)))++[gH lab aM es])::Ω) β':=by
 cases β with
 |nil=>have:=hS.shape.1;simp at this
 |cons bo bΩ=>
 have hlen:bo.length=own.length:=by
  obtain⟨gr,g1,g2⟩:=hS.shape.2 0 own rfl;simp at g1;rw[g1];exact g2
 have hjl:=(ai.1 hj).1
 have hg0:aN (own::Ω) (0,j)=some (.box cs):=by rw[aJ];exact hj
 obtain⟨hb,yI,hr⟩:=hS.obj (0,j) _ hg0;obtain⟨b,cv,ty,rfl,hbc,hσ,hcs⟩:=hr;have hcs:dS w σ (own::Ω) (bo::bΩ) cs cv.toList:=hcs;obtain⟨v,hv,hc0,hone⟩:=hcs.2 i _ hi
 have hx:∃ad:Option Addr,dw w σ (.sl es) v/\v=.slice ad es.length es.length/\∀n,lab=some n->dw w σ (.ol n es) v:=by
  cases lab with
  |none=>
   obtain⟨hd,ad,n,hval⟩:=hc0
   have hn:n=es.length:=by rw[hval] at hd;cases hd<;>rfl
   exact⟨ad,hd,by rw[hval,hn],fun n e=>by cases e⟩
  |some n=>
   obtain⟨hd,ad,m,hval⟩:=hc0
   have hn:m=es.length:=by
    have:=Ah hd;rw[hval] at this;cases this<;>rfl
   exact⟨ad,Ah hd,by rw[hval,hn],fun n' e=>by cases e;exact hd⟩
 obtain⟨ad,hd,hval,hol⟩:=hx;have hg:Grow w σ w σ:=Grow.refl hS.live
 obtain⟨hS',hk,hst⟩:=hS.push (o:=gH lab aM es) (h:=v) hg hlen (by
  cases lab with
  |none=>exact⟨hd,hes,ad,es.length,hval,aw _,.inl rfl⟩
  |some n=>exact⟨hd,hes,ad,es.length,hval,aw _,.inl ⟨rfl,hol n rfl⟩⟩) (fun b hb=>by
  rw[hval] at hb
  cases lab<;>cases ad<;>simp[gH,owns,blk] at hb)
 have hk1:aN ((own++[gH lab aM es])::Ω) (0,j)=some (.box cs):=gu _ _ _ _ _ hg0;have yN:aN ((bo++[v])::bΩ) (0,j)=some (.pointer (some ⟨b,0,none⟩)):=gu _ _ _ _ _ yI;have hko:iU (.box cs) (some (Value.pointer (some ⟨b,0,none⟩))) (.box (cs.set i (.bM (0,own.length) es))) (some (Value.pointer (some ⟨b,0,none⟩))):=.inr ⟨⟨_,rfl⟩,rfl⟩
 have hK:Keep ((own++[gH lab aM es])::Ω) ((bo++[v])::bΩ) (aP ((own++[gH lab aM es])::Ω) (0,j) (.box (cs.set i (.bM (0,own.length) es)))) (aP ((bo++[v])::bΩ) (0,j) (.pointer (some ⟨b,0,none⟩))):=by
  intro k1 o1 e1;by_cases e:k1=(0,j)
  ·subst e;rw[hk1] at e1;cases e1;exact⟨_,bP _ _ _ _ hk1,by rw[yN,bP _ _ _ _ yN];exact hko⟩
  ·exact⟨o1,(dD _ _ _ _ (Ne.symm e)).trans e1,by rw[dD _ _ _ _ (Ne.symm e)];exact .refl _ _⟩
 have hne:(0,own.length)≠(0,j):=fun e=>by injection e with _ e;omega
 obtain⟨hS2,hk2,sD⟩:=hS'.set (w':=w) (σ':=σ) (o':=.box (cs.set i (.bM (0,own.length) es))) (h':=.pointer (some ⟨b,0,none⟩)) hk1 yN (aw _) rfl rfl (dR.refl _ _) hS'.live (fun _ _ _=>⟨rfl,rfl⟩) hko
  ⟨b,cv,ty,rfl,hbc,hσ,by
    refine⟨by rw[cn];exact hcs.1,fun m x hm=> ?_⟩;rw[cM] at hm;by_cases e:i=m
    ·subst e;rw[if_pos rfl] at hm;split at hm
     ·cases hm;refine⟨v,hv,⟨hd,gH lab aM es,?_,fun a1 b1 e1=> ?_⟩,hone⟩
      ·show aN (aP _ (0,j) _) (0,own.length)=_;rw[dD _ _ _ _ (Ne.symm hne),bL]
      ·obtain⟨_,rfl⟩:=jP e1;refine⟨aw _,fun _=> ?_⟩;show aN (aP _ (0,j) _) (0,own.length)=_;rw[dD _ _ _ _ (Ne.symm hne),<-hlen,bL]
     ·cases hm
    ·rw[if_neg e] at hm;obtain⟨u,hu,hc,ho⟩:=hcs.2 m x hm
     exact⟨u,hu,(hc.mono (dR.refl _ _) hk).mono (dR.refl _ _) hK,ho⟩⟩ (fun _ e=>.inl e)
 have est:aP ((own++[gH lab aM es])::Ω) (0,j) (.box (cs.set i (.bM (0,own.length) es)))=(own.set j (.box (cs.set i (.bM (0,own.length) es)))++[gH lab aM es])::Ω:=by
  rw[aP,List.set_append_left _ _ hjl]
 rw[est] at hS2 hk2 sD;exact⟨_,hS2,hst.trans sD,hk.trans hk2⟩
end
section
variable {P:Program} {w w':World} {σ σ':Nat->Nat} {β:Hs} {N:Nat}
def vv(x y:C):Prop:=∀w σ S β v,fu w σ S β x v->fu w σ S β y v
theorem vv.refl(x:C):vv x x:=fun _ _ _ _ _ h=>h
inductive iN:List C->List C->Prop
 |nil:iN [] []
 |cons {x y:C} {xs ys:List C}:vv x y->iN xs ys->iN (x::xs) (y::ys)
theorem iN.refl:∀xs,iN xs xs
 |[]=>.nil
 |x::xs=>.cons (.refl x) (iN.refl xs)
theorem iN.length:∀{xs ys:List C},iN xs ys->xs.length=ys.length
 |_,_,.nil=>rfl
 |_,_,.cons _ h=>by rw[aa,aa,iN.length h]
theorem iN.at:∀{xs ys:List C},iN xs ys->∀(j:Nat)(x y:C),xs[j]? =some x->ys[j]? =some y->vv x y
 |_,_,.nil,j,x,y,h,_=>by simp at h
 |_,_,.cons a h,0,x,y,h1,h2=>by simp at h1 h2;subst h1;subst h2;exact a
 |_,_,.cons a h,j+1,x,y,h1,h2=>iN.at h j x y (by simpa using h1) (by simpa using h2)
theorem iN.less{xs ys:List C}(h:iN xs ys):Less (.agg xs) (.agg ys):=by
 rintro w σ S β v ⟨a,ha,hc⟩;refine⟨a,ha,h.length.symm.trans hc.1,fun j y hy=> ?_⟩
 have hj:j<xs.length:=by rw[h.length];exact(ai.1 hy).1
 obtain⟨v,h1,h2,h3⟩:=hc.2 j _ (ag hj);exact⟨v,h1,h.at j _ y (ag hj) hy w σ S β v h2,h3⟩
theorem iN.ae0{xs ys:List C}(h:iN xs ys){w:World}{σ:Nat->Nat}{S:Store}{β:Hs}{vs:List Value}(hc:dS w σ S β xs vs):dS w σ S β ys vs:=by
 refine⟨h.length.symm.trans hc.1,fun j y hy=> ?_⟩
 have hj:j<xs.length:=by rw[h.length];exact(ai.1 hy).1
 obtain⟨v,h1,h2,h3⟩:=hc.2 j _ (ag hj);exact⟨v,h1,h.at j _ y (ag hj) hy w σ S β v h2,h3⟩
theorem Mc{tm:List (Nat×V)}{own:List Obj}{Ω:Store}(lab:Option Nat)(j i aM:Nat)(es:List (List D))(cs:List C)(hj:own[j]? =some (.box cs))(hi:cs[i]? =some (match lab with|some n=>.kF n es|none=>.bF es))(hes:∀e∈es,e.length=aM):
 gQ N ⟨tm,own::Ω⟩ ⟨tm,(own.set j (.box (cs.set i (.bM (0,own.length) es)))++[gH lab aM es])::Ω⟩:=by
 intro a w σ β hR;obtain⟨β',hS,hst,hk⟩:=Z4 lab j i aM es cs hj hi hes hR.S;refine⟨σ,β',⟨hR.size,hR.defers,hS,fun u=>(hR.T u).mono (dR.refl _ _) hk⟩,hst,?_⟩;intro k o hko
 obtain⟨o',h1,h2⟩:=hk (k.1+1,k.2) o (by
  obtain⟨l,i⟩:=k;show aN (own::Ω) (l+1,i)=_
  rw[bB];exact hko)
 obtain⟨bo,bΩ,rfl,_⟩:=frames hR;have h3:=hS.shape.1
 cases β' with
 |nil=>simp at h3
 |cons bo' bΩ'=>
  rw[bB] at h1;rw[bB,bB] at h2;exact⟨o',h1,h2⟩
theorem rJ{c:Code}{Q:Exit->St->Prop}{tm:List (Nat×V)}{own:List Obj}{Ω:Store}(j i aM:Nat)(cs:List C)(hj:own[j]? =some (.box cs))(hi:cs[i]? =some (.bF []))
 (h:AW P N c Q ⟨tm,(own.set j (.box (cs.set i (.bM (0,own.length) [])))++[.tok aM []])::Ω⟩):AW P N c Q ⟨tm,own::Ω⟩:=
 lK h (Mc none j i aM [] cs hj hi (by simp))
def IZ(x y:D):Prop:=∀w σ v,dw w σ x v->dw w σ y v
theorem IZ.refl(x:D):IZ x x:=fun _ _ _ h=>h
inductive jF:List D->List D->Prop
 |nil:jF [] []
 |cons {x y:D} {xs ys:List D}:IZ x y->jF xs ys->jF (x::xs) (y::ys)
theorem jF.refl:∀r,jF r r
 |[]=>.nil
 |x::xs=>.cons (.refl x) (jF.refl xs)
theorem jF.length:∀{r r':List D},jF r r'->r.length=r'.length
 |_,_,.nil=>rfl
 |_,_,.cons _ h=>by rw[aa,aa,h.length]
theorem jF.at:∀{r r':List D},jF r r'->∀(j:Nat)(y:D),r'[j]? =some y->∃x,r[j]? =some x/\IZ x y
 |_,_,.nil,j,y,h=>by simp at h
 |_,_,.cons a h,0,y,h2=>by simp at h2;subst h2;exact⟨_,rfl,a⟩
 |_,_,.cons a h,j+1,y,h2=>h.at j y (by simpa using h2)
theorem jF.append:∀{a a' b b':List D},jF a a'->jF b b'->jF (a++b) (a'++b')
 |_,_,_,_,.nil,h=>h
 |_,_,_,_,.cons x h,k=>.cons x (h.append k)
inductive iT:List (List D)->List (List D)->Prop
 |nil:iT [] []
 |cons {x y:List D} {xs ys:List (List D)}:jF x y->iT xs ys->iT (x::xs) (y::ys)
theorem iT.length:∀{r r':List (List D)},iT r r'->r.length=r'.length
 |_,_,.nil=>rfl
 |_,_,.cons _ h=>by rw[aa,aa,h.length]
theorem iT.snoc:∀{a b:List (List D)}{x y:List D},iT a b->jF x y->iT (a++[x]) (b++[y])
 |_,_,_,_,.nil,h=>.cons h .nil
 |_,_,_,_,.cons z h,k=>.cons z (h.snoc k)
theorem iT.rows{z:Nat}:∀{a b:List (List D)},iT a b->(∀r∈b,r.length=z)->∀r∈a,r.length=z
 |_,_,.nil,h,r,hr=>by cases hr
 |_,_,.cons x h,k,r,hr=>by
  rcases du.1 hr with rfl|hr
  ·rw[x.length];exact k _ (by simp)
  ·exact h.rows (fun r hr=>k r (by simp[hr])) r hr
theorem iT.flat:∀{a b:List (List D)},iT a b->jF a.flatten b.flatten
 |_,_,.nil=>.nil
 |_,_,.cons x h=>by rw[ci,ci];exact x.append h.flat
theorem iT.rep{a b:List (List D)}(h:iT a b){w:World}{σ:Nat->Nat}{v:Value}(hr:dw w σ (.sl a) v):dw w σ (.sl b) v:=by
 cases hr with
 |nil ad cap=>
  cases h;exact .nil ad cap
 |sl b0 off cap aM es vals c t fz hcap hlen hb hσ hc hv=>
  have hl:=h.length;rw[hl] at hcap hσ hc ⊢
  have hlb:∀e∈b,e.length=aM:=fun e he=>by
   obtain⟨i,hi,rfl⟩:=bm he
   have:∀{a b:List (List D)}(h:iT a b)(i:Nat)(hi:i<b.length)(hi':i<a.length),jF a[i] b[i]:=by
    intro a b h
    induction h with
    |nil=>intro i hi;simp at hi
    |cons x h ih=>intro i hi hi';cases i with
     |zero=>exact x
     |succ i=>exact ih i (by simpa using hi) (by simpa using hi')
   have h1:=this h i hi (by omega);rw[<-h1.length];exact hlen _ (ac _)
  refine .sl b0 off cap aM b vals c t fz hcap hlb hb hσ hc fun j d hd=> ?_;obtain⟨x,hx,hle⟩:=h.flat.at j d hd;exact hle w σ _ (hv j x hx)
inductive lZ:List (Bool×List C)->List (Bool×List C)->Prop
 |nil:lZ [] []
 |cons {b:Bool} {cs cs':List C} {xs ys:List (Bool×List C)}:iN cs cs'->lZ xs ys->lZ ((b,cs)::xs) ((b,cs')::ys)
theorem lZ.refl:∀xs,lZ xs xs
 |[]=>.nil
 |(b,cs)::xs=>.cons (.refl cs) (lZ.refl xs)
theorem lZ.length:∀{xs ys:List (Bool×List C)},lZ xs ys->xs.length=ys.length
 |_,_,.nil=>rfl
 |_,_,.cons _ h=>by rw[aa,aa,h.length]
theorem lZ.at:∀{xs ys:List (Bool×List C)},lZ xs ys->∀(j:Nat)(y:Bool×List C),ys[j]? =some y->∃cs,xs[j]? =some (y.1,cs)/\iN cs y.2
 |_,_,.nil,j,y,h=>by simp at h
 |_,_,.cons a h,0,y,h2=>by simp at h2;subst h2;exact⟨_,rfl,a⟩
 |_,_,.cons a h,j+1,y,h2=>h.at j y (by simpa using h2)
theorem lZ.less{xs ys:List (Bool×List C)}(h:lZ xs ys):Less (.gq xs) (.gq ys):=by
 rintro w σ S β v ⟨a,ha,hl,hc⟩;refine⟨a,ha,h.length.symm.trans hl,fun j y hy=> ?_⟩;obtain⟨cs,h1,h2⟩:=h.at j y hy;obtain⟨u,hu,hr⟩:=hc j _ h1;refine⟨u,hu,?_⟩;obtain⟨b,cs'⟩:=y
 cases b with
 |true=>
  obtain⟨a',e,hcs⟩:=hr;exact⟨a',e,h2.ae0 hcs⟩
 |false=>
  obtain⟨x,e,hx,ho⟩:=hr;simp only at e h2;subst e
  cases h2 with
  |cons hxy hn=>
   cases hn;exact⟨_,rfl,hxy w σ S β u hx,ho⟩
theorem aT.of_le{f:FuncId}{args:List V}{t:V}(h:∀S,bK P f args S fun r S'=>Less r t/\S'=S):aT P f args t:=fun S=>
 ⟨(h S).1,fun w σ β vs hS hv=>((h S).2 w σ β vs hS hv).mono fun e w' ⟨v,r,S',σ',β',h1,h2,h3,h4,h5,h6,h7⟩=>⟨v,t,S',σ',β',h1,h2,h3,h4,h6 _ _ _ _ _ h5,rfl,h7⟩⟩
end
theorem IZ.trans{a b c:D}(h:IZ a b)(k:IZ b c):IZ a c:=fun w σ v x=>k w σ v (h w σ v x)
theorem jF.trans:∀{a b c:List D},jF a b->jF b c->jF a c
 |_,_,_,.nil,.nil=>.nil
 |_,_,_,.cons x h,.cons y k=>.cons (x.trans y) (h.trans k)
theorem iT.trans:∀{a b c:List (List D)},iT a b->iT b c->iT a c
 |_,_,_,.nil,.nil=>.nil
 |_,_,_,.cons x h,.cons y k=>.cons (x.trans y) (h.trans k)
theorem iT.at{a b:List (List D)}(h:iT a b):∀(i:Nat)(hi:i<b.length)(hi':i<a.length),jF a[i] b[i]:=by
 induction h with
 |nil=>intro i hi;simp at hi
 |cons x h ih=>intro i hi hi';cases i with
  |zero=>exact x
  |succ i=>exact ih i (by simpa using hi) (by simpa using hi')
theorem vv.trans{a b c:C}(h:vv a b)(k:vv b c):vv a c:=fun w σ S β v x=>k w σ S β v (h w σ S β v x)
theorem lend{r t:V}{S:Store}(h:FV r=t:=by first|rfl|(simp only[dx.v,bI.v,bJ.v,aZ.v,af,ap,bc,bR.aB,aU.aB,bA.aB,cO.aB,ah.aB,ak.aB,az,ba];rfl)):Less r t/\S=S:=⟨vo h,rfl⟩
def F9(P:Program)(o:Oper)(ρ:Operand->Value)(w:World)(v:Value)(w':World):Prop:=(execOp ρ o).run P w=.ok (.value v) w'\/((execOp ρ o).run P w=.ok .skip w'/\v=undef)
theorem F9.wp{P:Program}{o:Oper}{a:Act}{w w':World}{v:Value}{K:Act->World->Prop}{Q:Exit->Act->World->Prop}(h:F9 P o a.eval w v w')(hK:K (a.put o.dst v) w'):o.wp P a w K Q:=by
 unfold Oper.wp;rcases h with h|⟨h,rfl⟩
 ·rw[h];exact hK
 ·rw[h];exact hK
def JL(jW:List Nat)(i m:Nat):Nat:=if jW.contains i then m ||| 2^jW.idxOf i else m
def sU(P:Program)(jW:List Nat)(W:Nat->World)(K:Act->Prop):List Oper->List (List Nat)->Nat->Act->Prop
 |[],_,_,a=>K a
 |o::l,rs,i,a=>∃v,(∀m∈rs.headD [],F9 P o a.eval (W m) v (W (JL jW i m)))/\sU P jW W K l rs.tail (i+1) (a.put o.dst v)
def adk(R:Array Oper)(jW:List Nat)(i m:Nat):Bool:=
 (List.range jW.length).all fun k=>if m.testBit k then !((masks R.toList []).getD (jW.getD k 0) 0).testBit i&&jW.getD k 0 !=i&&(List.range jW.length).all (fun k'=> !((masks R.toList []).getD (jW.getD k 0) 0).testBit (jW.getD k' 0)||m.testBit k')
   else !((masks R.toList []).getD i 0).testBit (jW.getD k 0)
section
variable {P:Program} {R:Array Oper} {N:Nat} {jW:List Nat} {rng:List (List Nat)} {W:Nat->World} {vs:Nat->Value} {A:Nat->Act}
structure afG(R:Array Oper)(N:Nat)(jW:List Nat)(rng:List (List Nat)):Prop where
 guard:∀(j:Nat)(o:Oper),R[j]? =some o->o.guard=none
 afH:∀(j:Nat)(o:Oper),R[j]? =some o->∀cs b,o.op≠ .select cs b
 edge:∀(i:Nat)(o:Oper)(e:Edge),R[i]? =some o->e∈o.after->Region.binds .any e=true->e.on<i
 dst:∀(i:Nat)(o:Oper),R[i]? =some o->∀d,o.dst=some d->d<N
 pair:∀(i j:Nat)(x y:Oper),i<j->R[i]? =some x->R[j]? =some y->((masks R.toList []).getD j 0).testBit i=true\/x.apart R y=true
 one:∀(i j:Nat)(x y:Oper)(d:Nat),R[i]? =some x->R[j]? =some y->x.dst=some d->y.dst=some d->i=j
 rng:∀(j m:Nat),j<R.size->m<2^jW.length->adk R jW j m=true->m∈rng.getD j []
 afN:∀k,k<jW.length->jW.getD k 0<R.size
 apart:∀k k',k<k'->k'<jW.length->jW.getD k 0≠jW.getD k' 0
structure afO(R:Array Oper)(jW:List Nat)(W:Nat->World)(vs:Nat->Value)(a0:Act)(listed:Array Bool)(a:Act)(w:World):Prop where
 size:listed.size=R.size
 closed:∀i o e,R[i]? =some o->listed.getD i false=true->e∈o.after->Region.binds .any e=true->listed.getD e.on false=true
 wld:∃m,m<2^jW.length/\(∀k,k<jW.length->(listed.getD (jW.getD k 0) false=true<->m.testBit k=true))/\w=W m
 defs:a.defers=a0.defers
 afI:a.tmps.size=a0.tmps.size
 got:∀j o t,R[j]? =some o->o.dst=some t->listed.getD j false=true->a.tmps.getD t undef=vs j
 old:∀t,(∀j o,R[j]? =some o->o.dst=some t->listed.getD j false=false)->a.tmps.getD t undef=a0.tmps.getD t undef
end
section
variable {P:Program} {jW:List Nat} {W:Nat->World} {K:Act->Prop} {o:Oper} {l:List Oper} {rs:List (List Nat)} {i:Nat} {a:Act}
theorem sU.step(v:Value){r:List Nat}(h:∀m∈r,F9 P o a.eval (W m) v (W (JL jW i m)))(hk:sU P jW W K l rs (i+1) (a.put o.dst v)):sU P jW W K (o::l) (r::rs) i a:=⟨v,h,hk⟩
theorem XT{m:Nat}(he:jW.contains i=false):JL jW i m=m:=by unfold JL;rw[he];rfl
theorem sU.done(h:K a):sU P jW W K [] rs i a:=h
theorem sU.any(v:Value){r:List Nat}(he:jW.contains i=false)(h:∀w,F9 P o a.eval w v w)(hk:sU P jW W K l rs (i+1) (a.put o.dst v)):sU P jW W K (o::l) (r::rs) i a:=
 ⟨v,fun m _=>by rw[XT he];exact h _,hk⟩
end
section
variable {P:Program} {w:World} {σ:Nat->Nat}
end
def xV:List (List UInt8):=[[120],[121]]
theorem Ef:dO xV:=by unfold dO;decide
def YL:List (List UInt8):=[[],[105,102]]
theorem XU:dO YL:=by unfold dO;decide
def mK(t:List UInt8):ak:=.mk 5 t [109] 0 zT [qA [120]] []
def qI:bR:=⟨[115,104,111,119],kT [97]⟩
def vH:bY:=⟨[120],kT [97]⟩
def xW{bs:List Int}(s:List UInt8)(k:Int)(c:Cu bs):bJ×Cu bs:=
 if k=0 then(⟨s,[[97]],[qI],[vH],(mI 2 c).1,mK [115,104,111,119]⟩,(mI 2 c).2) else
 if k=1 then(⟨s,[[97]],[qI],[vH,⟨(bD xV c).1,nT⟩],nT,mK [115,104,111,119]⟩,(bD xV c).2) else
 if k=2 then(⟨s,[[97]],[qI],[vH],nT,(fE 3 xV c).1⟩,(fE 3 xV c).2) else
 if k=3 then(⟨s,[[97]],[⟨[115,104,111,119],(mI 1 c).1⟩],[vH],nT,mK [115,104,111,119]⟩,(mI 1 c).2) else
 if k=4 then(⟨(bD YL c).1,[[97]],[qI],[vH],nT,mK [115,104,111,119]⟩,(bD YL c).2) else
 (⟨s,[[97]],[qI],[vH],nT,mK [115,104,111,119]⟩,c)
def Ga{bs:List Int}(c:Cu bs):bJ×Cu bs:=xW (bD rH c).1 (aD 10 (bD rH c).2).1 (aD 10 (bD rH c).2).2
def jG:List (List UInt8):=[[115,104,111,119],[101,113],[97,100,100]]
theorem Me:dO jG:=by unfold dO;decide
def Rm:List (List UInt8):=[[],[105,110,116],[65]]
theorem UK:dO Rm:=by unfold dO;decide
def UL:List (List UInt8):=[[115,101,108,102],[98]]
theorem XV:dO UL:=by unfold dO;decide
def zE:ak:=.mk 0 [] [] 0 zT [] []
def yx(t:ah)(b:Bool):bA:=⟨[109],[],t,b,[],zE⟩
def Hf(s:List UInt8):bA:=⟨[116,119,105,99,101],[kT [115,101,108,102]],nT,true,xV,lg 10 [43] [mK s,je 1]⟩
def jk{bs:List Int}(s:List UInt8)(b:Bool)(m:List bA)(p:List (List UInt8))(k:Int)(c:Cu bs):dx×Cu bs:=
 if k=0 then(⟨s,p,true,b,yx nT false::m⟩,c) else
 if k=1 then(⟨(bD Rm c).1,p,false,b,yx nT false::m⟩,(bD Rm c).2) else
 if k=2 then(⟨s,p,false,b,yx (kT (bD UL c).1) false::m⟩,(bD UL c).2) else
 if k=3 then(⟨s,p,false,b,yx nT true::m⟩,c) else
 if k=4 then(⟨s,p++[[111,114,100]],false,b,yx nT false::m⟩,c) else
 if k=5 then(⟨s,p,false,b,yx nT false::m++[yx nT false]⟩,c) else
 (⟨s,p,false,b,yx nT false::m⟩,c)
theorem kL(s:List UInt8):aY (encS s)=s.length:=by simp[encS,aY,D.sz]
theorem mM(t:List UInt8)(y:ah):aY (bR.mk t y).enc=t.length+y.sz:=by
 simp only[bR.aB,aY,bG,D.sz,ah.cB];omega
theorem rM(t:List UInt8)(y:ah):aY (bY.mk t y).enc=t.length+y.sz:=by
 simp only[bY.aB,aY,bG,D.sz,ah.cB];omega
theorem um(s:List UInt8)(v:List (List UInt8))(w:List bR)(p:List bY)(r:ah)(b:ak):
 (bJ.mk s v w p r b).sz=s.length+(v.length+aH (v.map encS))+(w.length+aH (w.map bR.enc))+(p.length+aH (p.map bY.enc))+r.sz+b.sz:=by
 simp only[bJ.sz,bJ.aB,aY,bG,D.sz,al,ah.cB,ak.cB];omega
theorem Z5(s:List UInt8):(qA s).sz=s.length:=by rw[qA,jO,kU];simp[aH]
theorem Hg(n:Int):(je n).sz=0:=by rw[je,jO,kU];simp[aH]
theorem uo(t:List UInt8):(mK t).sz=t.length+3:=by
 rw[mK,jO,kU];simp only[af,ap,aH,ak.cB,Z5,aa,ae]
theorem oI:nT.sz=3:=by rw[nT,G9];rfl
theorem abC{bs:List Int}(c:Cu bs):(Ga c).1.sz<=2000:=by
 unfold Ga;have h0:=eX c L8;generalize (bD rH c).1=s at h0;generalize (aD 10 (bD rH c).2).1=k;generalize (aD 10 (bD rH c).2).2=c1;have h1:=eX c1 Ef;have h2:=eX c1 XU;have h3:=xB 2 c1;have h4:=xB 1 c1;have h5:=Ed 3 xV c1 Ef;unfold xW;split
 ·simp only[um,af,ap,aH,kL,qI,vH,mM,rM,kR,uo,aa,ae];omega
 split
 ·simp only[um,af,ap,aH,kL,qI,vH,mM,rM,kR,oI,uo,aa,ae];omega
 split
 ·simp only[um,af,ap,aH,kL,qI,vH,mM,rM,kR,oI,aa,ae];omega
 split
 ·simp only[um,af,ap,aH,kL,vH,mM,rM,kR,oI,uo,aa,ae];omega
 split
 ·simp only[um,af,ap,aH,kL,qI,vH,mM,rM,kR,oI,uo,aa,ae];omega
 ·simp only[um,af,ap,aH,kL,qI,vH,mM,rM,kR,oI,uo,aa,ae];omega
theorem l13Fn_3{bs:List Int}(hB:Bytes bs)(c c1 c2:Cu bs)(s:List UInt8)(l j:Nat)(S:Store)(hk:aN S (l,j)=some (.box (cur c)))(h1:bD rH c=(s,c1))(h2:aD 10 c1=(3,c2)):
 bK prog 51 [.c (.ptr (l,j) 0)] S (fun r S1=>r=(xW s 3 c2).1.v/\S1=aP S (l,j) (.box (cur (xW s 3 c2).2))):=by
 have g:∀x:Ab.Obj,aN (aP S (l,j) x) (l,j)=some x:=fun x=>bP _ _ _ _ hk;have q1:=fun fr:List Ab.Obj=>dU hB c (1+l) j (fr::S) rH (by rw[aQ];exact hk) (by decide) (by decide);simp only[h1,dh] at q1;have q2:=fun fr:List Ab.Obj=>dB hB c1 (1+l) j (fr::aP S (l,j) (.box (cur c1))) 10 (by rw[aQ];exact g _) (by omega) (by omega);simp only[h2,dh,bW] at q2;have q3:=fun fr:List Ab.Obj=>vk hB 1 c2 (1+l) j (fr::aP S (l,j) (.box (cur c2))) (by rw[aQ];exact g _) (by omega);simp only[dh,bW] at q3;obtain⟨q,hq⟩:∃q,q=xW s 3 c2:=⟨_,rfl⟩;rw[<-hq];simp only[xW,reduceIte,Int.reduceEq] at hq;refine bK.of_le ?_;refine wo [34] (rs:=[.cell 2 85]) zmx func51 ntmps51 rfl rfl rfl rfl rfl ?_;simp -implicitDefEqProofs (disch:=omega) only[go_sem];refine dJ [true] rfl (q1 _) ?_;simp -implicitDefEqProofs (disch:=omega) only[go_sem];refine au (eH _) ?_;simp -implicitDefEqProofs (disch:=omega) only[go_sem];refine au (eH _) ?_;simp -implicitDefEqProofs (disch:=omega) only[go_sem];refine au lS ?_;simp -implicitDefEqProofs (disch:=omega) only[go_sem];refine au (pR _) ?_;simp -implicitDefEqProofs (disch:=omega) only[go_sem]
 (repeat(with_reducible refine And.intro ?_ ?_;focus first|omega|rfl|assumption|exact⟨_,rfl,rfl⟩|(simp;omega)|(simp;done)))
 refine bq rfl (q2 _) ?_;simp -implicitDefEqProofs (disch:=omega) only[go_sem];refine bq rfl (q3 _) ?_;simp -implicitDefEqProofs (disch:=omega) only[go_sem]
 (repeat(with_reducible refine And.intro ?_ ?_;focus first|omega|rfl|assumption|exact⟨_,rfl,rfl⟩|(simp;omega)|(simp;done)))
 refine⟨by cases l<;>rfl,?_⟩;simp -implicitDefEqProofs (disch:=omega) only[go_sem];rw[hq];exact lend
theorem Z6{bs:List Int}(hB:Bytes bs)(c c1 c2:Cu bs)(s:List UInt8)(k:Int)(l j:Nat)(S:Store)(hk:aN S (l,j)=some (.box (cur c)))(h1:bD rH c=(s,c1))(h2:aD 10 c1=(k,c2))(hk3:k≠3):
 bK prog 51 [.c (.ptr (l,j) 0)] S (fun r S1=>r=(xW s k c2).1.v/\S1=aP S (l,j) (.box (cur (xW s k c2).2))):=by
 have g:∀x:Ab.Obj,aN (aP S (l,j) x) (l,j)=some x:=fun x=>bP _ _ _ _ hk;have q1:=fun fr:List Ab.Obj=>dU hB c (1+l) j (fr::S) rH (by rw[aQ];exact hk) (by decide) (by decide);simp only[h1,dh] at q1;have q2:=fun fr:List Ab.Obj=>dB hB c1 (1+l) j (fr::aP S (l,j) (.box (cur c1))) 10 (by rw[aQ];exact g _) (by omega) (by omega);simp only[h2,dh,bW] at q2;obtain⟨q,hq⟩:∃q,q=xW s k c2:=⟨_,rfl⟩;rw[<-hq];refine bK.of_le ?_;refine rF [34] (rs:=[.cell 2 85]) zmx func51 ntmps51 rfl rfl rfl rfl rfl ?_;simp -implicitDefEqProofs (disch:=omega) only[go_sem];refine dJ [true] rfl (q1 _) ?_;simp -implicitDefEqProofs (disch:=omega) only[go_sem];refine au (eH _) ?_;simp -implicitDefEqProofs (disch:=omega) only[go_sem];refine au (eH _) ?_;simp -implicitDefEqProofs (disch:=omega) only[go_sem];refine au lS ?_;simp -implicitDefEqProofs (disch:=omega) only[go_sem];refine au (pR _) ?_;simp -implicitDefEqProofs (disch:=omega) only[go_sem]
 (repeat(with_reducible refine And.intro ?_ ?_;focus first|omega|rfl|assumption|exact⟨_,rfl,rfl⟩|(simp;omega)|(simp;done)))
 refine bq rfl (q2 _) ?_;simp -implicitDefEqProofs (disch:=omega) only[go_sem]
 with_reducible refine aj (fun hb=> ?_) (fun hb=> ?_)<;>have h:=hb<;>(try simp only[wf_preprocess] at h)<;>simp -implicitDefEqProofs (disch:=omega) only[go_sem,hb]<;>(repeat(with_reducible refine And.intro ?_ ?_;focus first|omega|rfl|assumption|exact⟨_,rfl,rfl⟩|(simp;omega)|(simp;done)))
 ·subst h;simp only[xW,reduceIte,Int.reduceEq] at hq;refine bq rfl (vk hB 2 c2 (1+l) j _ (by rw[aQ];exact g _) (by omega)) ?_;simp -implicitDefEqProofs (disch:=omega) only[go_sem];rw[hq];exact lend
 have e0:=h
 with_reducible refine aj (fun hb=> ?_) (fun hb=> ?_)<;>have h:=hb<;>(try simp only[wf_preprocess] at h)<;>simp -implicitDefEqProofs (disch:=omega) only[go_sem,hb]<;>(repeat(with_reducible refine And.intro ?_ ?_;focus first|omega|rfl|assumption|exact⟨_,rfl,rfl⟩|(simp;omega)|(simp;done)))
 ·subst h;simp only[xW,reduceIte,Int.reduceEq] at hq;refine dJ [true] rfl (dU hB c2 (1+l) j _ xV (by rw[aQ];exact g _) (by decide) (by decide)) ?_;simp -implicitDefEqProofs (disch:=omega) only[go_sem];refine au lS ?_;simp -implicitDefEqProofs (disch:=omega) only[go_sem]
  (repeat(with_reducible refine And.intro ?_ ?_;focus first|omega|rfl|assumption|exact⟨_,rfl,rfl⟩|(simp;omega)|(simp;done)))
  refine⟨by cases l<;>rfl,?_⟩;simp -implicitDefEqProofs (disch:=omega) only[go_sem];rw[hq];exact lend
 have e1:=h
 with_reducible refine aj (fun hb=> ?_) (fun hb=> ?_)<;>have h:=hb<;>(try simp only[wf_preprocess] at h)<;>simp -implicitDefEqProofs (disch:=omega) only[go_sem,hb]<;>(repeat(with_reducible refine And.intro ?_ ?_;focus first|omega|rfl|assumption|exact⟨_,rfl,rfl⟩|(simp;omega)|(simp;done)))
 ·subst h;simp only[xW,reduceIte,Int.reduceEq] at hq;refine dJ [true] rfl (oH (Di hB 3 xV c2 (1+l) j _ (by decide) (by rw[aQ];exact g _))) ?_;simp -implicitDefEqProofs (disch:=omega) only[go_sem];rw[hq];exact lend
 have e2:=h
 with_reducible refine aj (fun hb=> ?_) (fun hb=> ?_)<;>have h:=hb<;>(try simp only[wf_preprocess] at h)<;>simp -implicitDefEqProofs (disch:=omega) only[go_sem,hb]<;>(repeat(with_reducible refine And.intro ?_ ?_;focus first|omega|rfl|assumption|exact⟨_,rfl,rfl⟩|(simp;omega)|(simp;done)))
 ·exact absurd h hk3
 with_reducible refine aj (fun hb=> ?_) (fun hb=> ?_)<;>have h:=hb<;>(try simp only[wf_preprocess] at h)<;>simp -implicitDefEqProofs (disch:=omega) only[go_sem,hb]<;>(repeat(with_reducible refine And.intro ?_ ?_;focus first|omega|rfl|assumption|exact⟨_,rfl,rfl⟩|(simp;omega)|(simp;done)))
 ·subst h;simp only[xW,reduceIte,Int.reduceEq] at hq;refine dJ [true] rfl (dU hB c2 (1+l) j _ YL (by rw[aQ];exact g _) (by decide) (by decide)) ?_;simp -implicitDefEqProofs (disch:=omega) only[go_sem];rw[hq];exact lend
 have e4:=h;simp only[xW,if_neg e0,if_neg e1,if_neg e2,if_neg hk3,if_neg e4] at hq;rw[hq];exact lend
theorem XW{bs:List Int}(hB:Bytes bs)(c:Cu bs)(l j:Nat)(S:Store)(hk:aN S (l,j)=some (.box (cur c))):
 bK prog 51 [.c (.ptr (l,j) 0)] S (fun r S1=>r=(Ga c).1.v/\S1=aP S (l,j) (.box (cur (Ga c).2))):=by
 unfold Ga;by_cases h3:(aD 10 (bD rH c).2).1=3
 ·rw[h3];exact l13Fn_3 hB c _ _ _ l j S hk rfl (eo h3 rfl)
 ·exact Z6 hB c _ _ _ _ l j S hk rfl rfl h3
theorem I4(s:List UInt8)(p:List ah)(r:ah)(d:Bool)(v:List (List UInt8))(b:ak):aY (bA.mk s p r d v b).enc=s.length+(p.length+aH (p.map ah.enc))+r.sz+(v.length+aH (v.map encS))+b.sz:=by
 simp only[bA.aB,aY,bG,D.sz,al,ah.cB,ak.cB];omega
theorem Dj(s:List UInt8)(p:List (List UInt8))(a b:Bool)(m:List bA):(dx.mk s p a b m).sz=s.length+(p.length+aH (p.map encS))+(m.length+aH (m.map bA.enc)):=by
 simp only[dx.sz,dx.aB,aY,bG,D.sz,al];omega
def kD(b:Bool)(s:List UInt8):List bA:=match b with
 |true=>[Hf s]
 |false=>[]
def kM(b:Bool):List (List UInt8):=match b with
 |true=>[[111,114,100]]
 |false=>[]
def sV{bs:List Int}(c:Cu bs):dx×Cu bs:=
 jk (bD jG c).1 (cK 3 (bD jG c).2).1 (kD (cK 2 (cK 3 (bD jG c).2).2).1 (bD jG c).1) (kM (cK 3 (cK 2 (cK 3 (bD jG c).2).2).2).1)
  (aD 12 (cK 3 (cK 2 (cK 3 (bD jG c).2).2).2).2).1 (aD 12 (cK 3 (cK 2 (cK 3 (bD jG c).2).2).2).2).2
theorem OG(t:ah)(b:Bool):aY (yx t b).enc=t.sz+1:=by
 have hz:zE.sz=0:=by rw[zE,jO,kU];simp[aH]
 rw[yx,I4,hz];simp only[ap,aH,ae,aa];omega
theorem Z7(s:List UInt8):aY (Hf s).enc<=s.length+24:=by
 rw[Hf,I4,lg,jO,kU];simp only[xV,af,ap,aH,kL,ah.cB,ak.cB,kR,oI,uo,Hg,ae,aa];omega
theorem Z8(b:Bool)(s:List UInt8):(kD b s).length<=1/\aH ((kD b s).map bA.enc)<=s.length+24:=by
 cases b with
 |false=>exact⟨ao _,ao _⟩
 |true=>exact⟨aw _,by have:=Z7 s;simp only[kD,af,ap,aH];omega⟩
theorem Z9(b:Bool):(kM b).length<=1/\aH ((kM b).map encS)<=3:=by
 cases b with
 |false=>exact⟨ao _,ao _⟩
 |true=>exact⟨aw _,aw _⟩
theorem UM{bs:List Int}(c:Cu bs):(sV c).1.sz<=300:=by
 unfold sV;have h0:=eX c Me;generalize (bD jG c).1=s at h0;have h1:=Z8 (cK 2 (cK 3 (bD jG c).2).2).1 s;have h2:=Z9 (cK 3 (cK 2 (cK 3 (bD jG c).2).2).2).1;generalize kD (cK 2 (cK 3 (bD jG c).2).2).1 s=m at h1;generalize kM (cK 3 (cK 2 (cK 3 (bD jG c).2).2).2).1=p at h2;generalize (cK 3 (bD jG c).2).1=b;generalize (aD 12 (cK 3 (cK 2 (cK 3 (bD jG c).2).2).2).2).1=k;generalize (aD 12 (cK 3 (cK 2 (cK 3 (bD jG c).2).2).2).2).2=c1;have h3:=eX c1 UK;have h4:=eX c1 XV;unfold jk
 iterate 6
  split
  ·simp only[Dj,af,ap,bc,aH,lq,kL,OG,kR,oI,aa,ae,ab];omega
 simp only[Dj,af,ap,aH,OG,oI,aa,ae];omega
theorem Rn{bs:List Int}(hB:Bytes bs)(c c1 c2 c3 c4 c5:Cu bs)(s:List UInt8)(b o p:Bool)(k:Int)(l j:Nat)(S:Store)(hk:aN S (l,j)=some (.box (cur c)))(h1:bD jG c=(s,c1))(h2:cK 3 c1=(b,c2))(h3:cK 2 c2=(o,c3))(h4:cK 3 c3=(p,c4))(h5:aD 12 c4=(k,c5))(ho1:o=true)(XY:k=2\/k=3):
 bK prog 48 [.c (.ptr (l,j) 0)] S (fun r S1=>r=(jk s b (kD o s) (kM p) k c5).1.v/\S1=aP S (l,j) (.box (cur (jk s b (kD o s) (kM p) k c5).2))):=by
 have g:∀x:Ab.Obj,aN (aP S (l,j) x) (l,j)=some x:=fun x=>bP _ _ _ _ hk;have q1:=fun fr:List Ab.Obj=>dU hB c (1+l) j (fr::S) jG (by rw[aQ];exact hk) (by decide) (by decide);simp only[h1,dh] at q1;have q2:=fun fr:List Ab.Obj=>iA hB c1 (1+l) j (fr::aP S (l,j) (.box (cur c1))) 3 (by rw[aQ];exact g _) (by omega) (by omega);simp only[h2,dh,bW] at q2;have q3:=fun fr:List Ab.Obj=>iA hB c2 (1+l) j (fr::aP S (l,j) (.box (cur c2))) 2 (by rw[aQ];exact g _) (by omega) (by omega);simp only[h3,dh,bW] at q3;have q4:=fun fr:List Ab.Obj=>iA hB c3 (1+l) j (fr::aP S (l,j) (.box (cur c3))) 3 (by rw[aQ];exact g _) (by omega) (by omega);simp only[h4,dh,bW] at q4;have q5:=fun fr:List Ab.Obj=>dB hB c4 (1+l) j (fr::aP S (l,j) (.box (cur c4))) 12 (by rw[aQ];exact g _) (by omega) (by omega);simp only[h5,dh,bW] at q5;have qo:∀es:List (List D),es=[mK s,je 1].map ak.enc->aT prog 77 [.c (.d (.i .i64 10)),.c (.d (.s [43])),.c (.d (.sl es))] (lg 10 [43] [mK s,je 1]).v:=fun es he S=>oH (xU 10 [43] [mK s,je 1] he (by simp) (.inl rfl) S)
 have ho:(kD o s)=(if o=true then [Hf s] else []):=by cases o<;>rfl
 have hp:(kM p)=(if p=true then [[111,114,100]] else []):=by cases p<;>rfl
 obtain⟨q,hq⟩:∃q,q=jk s b (kD o s) (kM p) k c5:=⟨_,rfl⟩;rw[<-hq];refine bK.of_le ?_;refine Rk [34] (rs:=[.cell 2 65]) zmx func48 ntmps48 rfl rfl rfl rfl rfl ?_;simp -implicitDefEqProofs (disch:=omega) only[go_sem];refine au (eH _) ?_;simp -implicitDefEqProofs (disch:=omega) only[go_sem];refine dJ [true] rfl (q1 _) ?_;simp -implicitDefEqProofs (disch:=omega) only[go_sem];refine bq rfl (q2 _) ?_;simp -implicitDefEqProofs (disch:=omega) only[go_sem];refine au lS ?_;simp -implicitDefEqProofs (disch:=omega) only[go_sem]
 (repeat(with_reducible refine And.intro ?_ ?_;focus first|omega|rfl|assumption|exact⟨_,rfl,rfl⟩|(simp;omega)|(simp;done)))
 refine bq rfl (q3 _) ?_;subst ho1;simp -implicitDefEqProofs (disch:=omega) only[go_sem];refine au lS ?_;simp -implicitDefEqProofs (disch:=omega) only[go_sem];refine au (pR _) ?_;simp -implicitDefEqProofs (disch:=omega) only[go_sem];refine au (mJ _) ?_;simp -implicitDefEqProofs (disch:=omega) only[go_sem];refine au (qo _ rfl) ?_;simp -implicitDefEqProofs (disch:=omega) only[go_sem]
 (repeat(with_reducible refine And.intro ?_ ?_;focus first|omega|rfl|assumption|exact⟨_,rfl,rfl⟩|(simp;omega)|(simp;done)))
 refine⟨by cases l<;>rfl,?_⟩;simp -implicitDefEqProofs (disch:=omega) only[go_sem];refine bq rfl (q4 _) ?_;rcases p with _|_
 all_goals
  simp -implicitDefEqProofs (disch:=omega) only[go_sem];refine bq rfl (q5 _) ?_;rcases XY with rfl|rfl
  ·simp only[jk,kD,kM,reduceIte,Int.reduceEq] at hq;simp -implicitDefEqProofs (disch:=omega) only[go_sem];refine dJ [true] rfl (dU hB c5 (1+l) j _ UL (by rw[aQ];exact g _) (by decide) (by decide)) ?_;simp -implicitDefEqProofs (disch:=omega) only[go_sem];refine au (eH _) ?_;simp -implicitDefEqProofs (disch:=omega) only[go_sem]
   (repeat(with_reducible refine And.intro ?_ ?_;focus first|omega|rfl|assumption|exact⟨_,rfl,rfl⟩|(simp;omega)|(simp;done)))
   refine⟨by cases l<;>rfl,?_⟩;simp -implicitDefEqProofs (disch:=omega) only[go_sem];rw[hq];exact lend
  ·simp only[jk,kD,kM,reduceIte,Int.reduceEq] at hq;simp -implicitDefEqProofs (disch:=omega) only[go_sem]
   (repeat(with_reducible refine And.intro ?_ ?_;focus first|omega|rfl|assumption|exact⟨_,rfl,rfl⟩|(simp;omega)|(simp;done)))
   rw[hq];exact lend
theorem Ro{bs:List Int}(hB:Bytes bs)(c c1 c2 c3 c4 c5:Cu bs)(s:List UInt8)(b o p:Bool)(k:Int)(l j:Nat)(S:Store)(hk:aN S (l,j)=some (.box (cur c)))(h1:bD jG c=(s,c1))(h2:cK 3 c1=(b,c2))(h3:cK 2 c2=(o,c3))(h4:cK 3 c3=(p,c4))(h5:aD 12 c4=(k,c5))(ho1:o=false)(XY:k=2\/k=3):
 bK prog 48 [.c (.ptr (l,j) 0)] S (fun r S1=>r=(jk s b (kD o s) (kM p) k c5).1.v/\S1=aP S (l,j) (.box (cur (jk s b (kD o s) (kM p) k c5).2))):=by
 have g:∀x:Ab.Obj,aN (aP S (l,j) x) (l,j)=some x:=fun x=>bP _ _ _ _ hk;have q1:=fun fr:List Ab.Obj=>dU hB c (1+l) j (fr::S) jG (by rw[aQ];exact hk) (by decide) (by decide);simp only[h1,dh] at q1;have q2:=fun fr:List Ab.Obj=>iA hB c1 (1+l) j (fr::aP S (l,j) (.box (cur c1))) 3 (by rw[aQ];exact g _) (by omega) (by omega);simp only[h2,dh,bW] at q2;have q3:=fun fr:List Ab.Obj=>iA hB c2 (1+l) j (fr::aP S (l,j) (.box (cur c2))) 2 (by rw[aQ];exact g _) (by omega) (by omega);simp only[h3,dh,bW] at q3;have q4:=fun fr:List Ab.Obj=>iA hB c3 (1+l) j (fr::aP S (l,j) (.box (cur c3))) 3 (by rw[aQ];exact g _) (by omega) (by omega);simp only[h4,dh,bW] at q4;have q5:=fun fr:List Ab.Obj=>dB hB c4 (1+l) j (fr::aP S (l,j) (.box (cur c4))) 12 (by rw[aQ];exact g _) (by omega) (by omega);simp only[h5,dh,bW] at q5;have qo:∀es:List (List D),es=[mK s,je 1].map ak.enc->aT prog 77 [.c (.d (.i .i64 10)),.c (.d (.s [43])),.c (.d (.sl es))] (lg 10 [43] [mK s,je 1]).v:=fun es he S=>oH (xU 10 [43] [mK s,je 1] he (by simp) (.inl rfl) S)
 have ho:(kD o s)=(if o=true then [Hf s] else []):=by cases o<;>rfl
 have hp:(kM p)=(if p=true then [[111,114,100]] else []):=by cases p<;>rfl
 obtain⟨q,hq⟩:∃q,q=jk s b (kD o s) (kM p) k c5:=⟨_,rfl⟩;rw[<-hq];refine bK.of_le ?_;refine wo [34] (rs:=[.cell 2 65]) zmx func48 ntmps48 rfl rfl rfl rfl rfl ?_;simp -implicitDefEqProofs (disch:=omega) only[go_sem];refine au (eH _) ?_;simp -implicitDefEqProofs (disch:=omega) only[go_sem];refine dJ [true] rfl (q1 _) ?_;simp -implicitDefEqProofs (disch:=omega) only[go_sem];refine bq rfl (q2 _) ?_;simp -implicitDefEqProofs (disch:=omega) only[go_sem];refine au lS ?_;simp -implicitDefEqProofs (disch:=omega) only[go_sem]
 (repeat(with_reducible refine And.intro ?_ ?_;focus first|omega|rfl|assumption|exact⟨_,rfl,rfl⟩|(simp;omega)|(simp;done)))
 refine bq rfl (q3 _) ?_;subst ho1;simp -implicitDefEqProofs (disch:=omega) only[go_sem];refine bq rfl (q4 _) ?_;rcases p with _|_
 all_goals
  simp -implicitDefEqProofs (disch:=omega) only[go_sem];refine bq rfl (q5 _) ?_;rcases XY with rfl|rfl
  ·simp only[jk,kD,kM,reduceIte,Int.reduceEq] at hq;simp -implicitDefEqProofs (disch:=omega) only[go_sem];refine dJ [true] rfl (dU hB c5 (1+l) j _ UL (by rw[aQ];exact g _) (by decide) (by decide)) ?_;simp -implicitDefEqProofs (disch:=omega) only[go_sem];refine au (eH _) ?_;simp -implicitDefEqProofs (disch:=omega) only[go_sem]
   (repeat(with_reducible refine And.intro ?_ ?_;focus first|omega|rfl|assumption|exact⟨_,rfl,rfl⟩|(simp;omega)|(simp;done)))
   refine⟨by cases l<;>rfl,?_⟩;simp -implicitDefEqProofs (disch:=omega) only[go_sem];rw[hq];exact lend
  ·simp only[jk,kD,kM,reduceIte,Int.reduceEq] at hq;simp -implicitDefEqProofs (disch:=omega) only[go_sem]
   (repeat(with_reducible refine And.intro ?_ ?_;focus first|omega|rfl|assumption|exact⟨_,rfl,rfl⟩|(simp;omega)|(simp;done)))
   rw[hq];exact lend
theorem Rp{bs:List Int}(hB:Bytes bs)(c c1 c2 c3 c4 c5:Cu bs)(s:List UInt8)(b o p:Bool)(k:Int)(l j:Nat)(S:Store)(hk:aN S (l,j)=some (.box (cur c)))(h1:bD jG c=(s,c1))(h2:cK 3 c1=(b,c2))(h3:cK 2 c2=(o,c3))(h4:cK 3 c3=(p,c4))(h5:aD 12 c4=(k,c5))(hk2:k≠2)(hk3:k≠3):
 bK prog 48 [.c (.ptr (l,j) 0)] S (fun r S1=>r=(jk s b (kD o s) (kM p) k c5).1.v/\S1=aP S (l,j) (.box (cur (jk s b (kD o s) (kM p) k c5).2))):=by
 have g:∀x:Ab.Obj,aN (aP S (l,j) x) (l,j)=some x:=fun x=>bP _ _ _ _ hk;have q1:=fun fr:List Ab.Obj=>dU hB c (1+l) j (fr::S) jG (by rw[aQ];exact hk) (by decide) (by decide);simp only[h1,dh] at q1;have q2:=fun fr:List Ab.Obj=>iA hB c1 (1+l) j (fr::aP S (l,j) (.box (cur c1))) 3 (by rw[aQ];exact g _) (by omega) (by omega);simp only[h2,dh,bW] at q2;have q3:=fun fr:List Ab.Obj=>iA hB c2 (1+l) j (fr::aP S (l,j) (.box (cur c2))) 2 (by rw[aQ];exact g _) (by omega) (by omega);simp only[h3,dh,bW] at q3;have q4:=fun fr:List Ab.Obj=>iA hB c3 (1+l) j (fr::aP S (l,j) (.box (cur c3))) 3 (by rw[aQ];exact g _) (by omega) (by omega);simp only[h4,dh,bW] at q4;have q5:=fun fr:List Ab.Obj=>dB hB c4 (1+l) j (fr::aP S (l,j) (.box (cur c4))) 12 (by rw[aQ];exact g _) (by omega) (by omega);simp only[h5,dh,bW] at q5;have qo:∀es:List (List D),es=[mK s,je 1].map ak.enc->aT prog 77 [.c (.d (.i .i64 10)),.c (.d (.s [43])),.c (.d (.sl es))] (lg 10 [43] [mK s,je 1]).v:=fun es he S=>oH (xU 10 [43] [mK s,je 1] he (by simp) (.inl rfl) S)
 have ho:(kD o s)=(if o=true then [Hf s] else []):=by cases o<;>rfl
 have hp:(kM p)=(if p=true then [[111,114,100]] else []):=by cases p<;>rfl
 obtain⟨q,hq⟩:∃q,q=jk s b (kD o s) (kM p) k c5:=⟨_,rfl⟩;rw[<-hq];refine bK.of_le ?_;refine rF [34] (rs:=[.cell 2 65]) zmx func48 ntmps48 rfl rfl rfl rfl rfl ?_;simp -implicitDefEqProofs (disch:=omega) only[go_sem];refine au (eH _) ?_;simp -implicitDefEqProofs (disch:=omega) only[go_sem];refine dJ [true] rfl (q1 _) ?_;simp -implicitDefEqProofs (disch:=omega) only[go_sem];refine bq rfl (q2 _) ?_;simp -implicitDefEqProofs (disch:=omega) only[go_sem];refine au lS ?_;simp -implicitDefEqProofs (disch:=omega) only[go_sem]
 (repeat(with_reducible refine And.intro ?_ ?_;focus first|omega|rfl|assumption|exact⟨_,rfl,rfl⟩|(simp;omega)|(simp;done)))
 refine bq rfl (q3 _) ?_;rcases o with _|_
 all_goals
  simp -implicitDefEqProofs (disch:=omega) only[go_sem]
  first
  |(refine au lS ?_
    simp -implicitDefEqProofs (disch:=omega) only[go_sem];refine au (pR _) ?_;simp -implicitDefEqProofs (disch:=omega) only[go_sem];refine au (mJ _) ?_;simp -implicitDefEqProofs (disch:=omega) only[go_sem];refine au (qo _ rfl) ?_;simp -implicitDefEqProofs (disch:=omega) only[go_sem]
    (repeat(with_reducible refine And.intro ?_ ?_;focus first|omega|rfl|assumption|exact⟨_,rfl,rfl⟩|(simp;omega)|(simp;done)))
    refine⟨by cases l<;>rfl,?_⟩
    simp -implicitDefEqProofs (disch:=omega) only[go_sem])
  |skip
 all_goals refine bq rfl (q4 _) ?_
 all_goals
  rcases p with _|_
  all_goals
   simp -implicitDefEqProofs (disch:=omega) only[go_sem];refine bq rfl (q5 _) ?_;simp -implicitDefEqProofs (disch:=omega) only[go_sem]
   with_reducible refine aj (fun hb=> ?_) (fun hb=> ?_)<;>have h:=hb<;>(try simp only[wf_preprocess] at h)<;>simp -implicitDefEqProofs (disch:=omega) only[go_sem,hb]<;>(repeat(with_reducible refine And.intro ?_ ?_;focus first|omega|rfl|assumption|exact⟨_,rfl,rfl⟩|(simp;omega)|(simp;done)))
   ·subst h;simp only[jk,kD,kM,reduceIte,Int.reduceEq] at hq
    try(simp -implicitDefEqProofs (disch:=omega) only[go_sem])
    rw[hq];exact lend
   have e0:=h
   with_reducible refine aj (fun hb=> ?_) (fun hb=> ?_)<;>have h:=hb<;>(try simp only[wf_preprocess] at h)<;>simp -implicitDefEqProofs (disch:=omega) only[go_sem,hb]<;>(repeat(with_reducible refine And.intro ?_ ?_;focus first|omega|rfl|assumption|exact⟨_,rfl,rfl⟩|(simp;omega)|(simp;done)))
   ·subst h;simp only[jk,kD,kM,reduceIte,Int.reduceEq] at hq;refine dJ [true] rfl (dU hB c5 (1+l) j _ Rm (by rw[aQ];exact g _) (by decide) (by decide)) ?_;simp -implicitDefEqProofs (disch:=omega) only[go_sem];rw[hq];exact lend
   have e1:=h
   with_reducible refine aj (fun hb=> ?_) (fun hb=> ?_)<;>have h:=hb<;>(try simp only[wf_preprocess] at h)<;>simp -implicitDefEqProofs (disch:=omega) only[go_sem,hb]<;>(repeat(with_reducible refine And.intro ?_ ?_;focus first|omega|rfl|assumption|exact⟨_,rfl,rfl⟩|(simp;omega)|(simp;done)))
   ·exact absurd h hk2
   with_reducible refine aj (fun hb=> ?_) (fun hb=> ?_)<;>have h:=hb<;>(try simp only[wf_preprocess] at h)<;>simp -implicitDefEqProofs (disch:=omega) only[go_sem,hb]<;>(repeat(with_reducible refine And.intro ?_ ?_;focus first|omega|rfl|assumption|exact⟨_,rfl,rfl⟩|(simp;omega)|(simp;done)))
   ·exact absurd h hk3
   with_reducible refine aj (fun hb=> ?_) (fun hb=> ?_)<;>have h:=hb<;>(try simp only[wf_preprocess] at h)<;>simp -implicitDefEqProofs (disch:=omega) only[go_sem,hb]<;>(repeat(with_reducible refine And.intro ?_ ?_;focus first|omega|rfl|assumption|exact⟨_,rfl,rfl⟩|(simp;omega)|(simp;done)))
   ·subst h;simp only[jk,kD,kM,reduceIte,Int.reduceEq] at hq
    (repeat(with_reducible refine And.intro ?_ ?_;focus first|omega|rfl|assumption|exact⟨_,rfl,rfl⟩|(simp;omega)|(simp;done)))
    try(simp -implicitDefEqProofs (disch:=omega) only[go_sem])
    rw[hq];exact lend
   have e4:=h
   with_reducible refine aj (fun hb=> ?_) (fun hb=> ?_)<;>have h:=hb<;>(try simp only[wf_preprocess] at h)<;>simp -implicitDefEqProofs (disch:=omega) only[go_sem,hb,List.getD_cons_zero,List.take_succ_cons,List.take_zero,List.take_nil]<;>(repeat(with_reducible refine And.intro ?_ ?_;focus first|omega|rfl|assumption|exact⟨_,rfl,rfl⟩|(simp;omega)|(simp;done)))
   ·subst h;simp only[jk,kD,kM,reduceIte,Int.reduceEq] at hq
    (repeat(with_reducible refine And.intro ?_ ?_;focus first|omega|rfl|assumption|exact⟨_,rfl,rfl⟩|(simp;omega)|(simp;done)))
    try(refine⟨fun y hy=>(by rw[dt] at hy;subst hy;rfl),?_⟩;(repeat(with_reducible refine And.intro ?_ ?_;focus first|omega|rfl|assumption|exact⟨_,rfl,rfl⟩|(simp;omega)|(simp;done))))
    (repeat(with_reducible refine And.intro ?_ ?_;focus first|omega|rfl|assumption|exact⟨_,rfl,rfl⟩|(simp;omega)|(simp;done)))
    refine⟨by cases l<;>rfl,?_⟩;simp -implicitDefEqProofs (disch:=omega) only[go_sem];rw[hq];exact lend
   have e5:=h;simp only[jk,kD,kM,if_neg e0,if_neg e1,if_neg hk2,if_neg hk3,if_neg e4,if_neg e5] at hq;rw[hq];exact lend
theorem NG{bs:List Int}(hB:Bytes bs)(c:Cu bs)(l j:Nat)(S:Store)(hk:aN S (l,j)=some (.box (cur c))):
 bK prog 48 [.c (.ptr (l,j) 0)] S (fun r S1=>r=(sV c).1.v/\S1=aP S (l,j) (.box (cur (sV c).2))):=by
 unfold sV;generalize hk0:(aD 12 (cK 3 (cK 2 (cK 3 (bD jG c).2).2).2).2).1=k;generalize ho0:(cK 2 (cK 3 (bD jG c).2).2).1=o;by_cases h23:k=2\/k=3
 ·cases o with
  |true=>exact Rn hB c _ _ _ _ _ _ _ _ _ _ l j S hk rfl rfl (eo ho0 rfl) rfl (eo hk0 rfl) rfl h23
  |false=>exact Ro hB c _ _ _ _ _ _ _ _ _ _ l j S hk rfl rfl (eo ho0 rfl) rfl (eo hk0 rfl) rfl h23
 ·exact Rp hB c _ _ _ _ _ _ _ _ _ _ l j S hk rfl rfl (eo ho0 rfl) rfl (eo hk0 rfl) (fun e=>h23 (.inl e)) (fun e=>h23 (.inr e))
end Go.Ab