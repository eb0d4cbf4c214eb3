/-
  SEVERAL TEXTS IN ONE (merged by program): contracts and models, each with its own heading.
-/
import Derived.Test.YtnmjbebcebbmfaaGreatDoorPartDnbE
set_option linter.unusedSimpArgs false
set_option linter.unusedVariables false
namespace Go.Ab
def atp(T:List TypeId):Op->Bool
 | .call {callee:=.value _,args:=_,argTypes:=ts}=> !(ts.toList.all fun t=>T.all fun u=> !(t==u))
 |_=>false
def wX(T:List TypeId)(R:Array Oper):Md:=fun op=>match Dh R 0 op with
 |0=>if atp T op then 3 else 0
 |m=>m
def JE:V->Option Key
 | .c (.ptr k _)=>some k
 | .c (.nM k _ _)=>some k
 | .c (.jO k)=>some k
 | .c (.mp k)=>some k
 | .c (.xp k _ _)=>some k
 | .c (.xq k _ _ _ _ _)=>some k
 |_=>none
theorem Vn{v:V}{k:Key}(h:N7 v k):JE v=some k:=by
 rcases h with⟨_,rfl⟩|⟨_,_,rfl⟩|rfl|rfl|⟨_,_,rfl⟩|⟨_,_,_,_,_,rfl⟩<;>rfl
def aeS:Key->Key->Bool
 |(0,a),(0,b)=>a !=b
 |(0,_),(_+1,_)=>true
 |(_+1,_),(0,_)=>true
 |_,_=>false
theorem alm{k k':Key}(h:aeS k k'=true):k≠k':=by
 rintro rfl;obtain⟨l,j⟩:=k;cases l<;>simp[aeS] at h
def aeT(v w:V):Bool:=match JE v,JE w with
 |some k,some k'=>aeS k k'
 |_,_=>true
def Xt:Op->List Operand
 | .store _ a _=>[a]
 | .call {callee:=.value _,args:=Bu,argTypes:=_}=>Bu.toList
 |_=>[]
def Oh(R:Array Oper)(i:Nat)(x:Oper)(j:Nat)(y:Oper):Bool:=kZ y.op||(match x.op with
 | .store _ _ _=>true
 | .call {callee:=.value _,args:=_,argTypes:=_}=>true
 |_=>false)&&(Xt x.op).all (settled R i)&&y.op.operands.toList.all (settled R j)
def Mr(T:List TypeId)(R:Array Oper)(p i j:Nat)(x y:Oper):Bool:= !(x.apart R y)||(!(decide (j=p))&&((gT (wX T R) x.op&&gT (wX T R) y.op)||(nN (wX T R) x.op&& !(Oh R i x j y))||(nN (wX T R) y.op&& !(Oh R j y i x))))
def Gw(T:List TypeId)(R:Array Oper)(N p:Nat):Bool:=L9 (wX T R) R p&&
 (List.range R.size).all fun j=>
   (match R[j]? with
    |some o=>o.after.toList.all (fun e=> !Region.binds .any e||decide (e.on<j))&&(match o.dst with|some d=>decide (d<N)|none=>true)
    |none=>true)&&
   (List.range j).all fun i=>
     match R[i]?,R[j]? with
     |some x,some y=>((masks R.toList []).getD j 0).testBit i|| !(Mr T R p i j x y)
     |_,_=>true
def avF(T:List TypeId)(R:Array Oper)(N:Nat):Nat:=if Gw T R N R.size then R.size else((List.range R.size).find? fun p=>PG R p&&Gw T R N p).getD R.size
def acQ(T:List TypeId)(R:Array Oper)(N:Nat):Bool:=Gw T R N (avF T R N)
def Xu(E:Md)(R:Array Oper)(tm:List (Nat×V)):Bool:=
 (List.range R.size).all fun i=>match R[i]? with
   |some x=> !(nN E x.op)||(Xt x.op).all fun a=>(List.range R.size).all fun j=>match R[j]? with
     |some y=>wF R i j||gT E y.op||kZ y.op||ad4 y.op||y.op.operands.toList.all (fun z=>aeT (ev tm a) (ev tm z))
     |none=>true
   |none=>true
def Un(vs:List V)(S S':Store):Prop:=∀k,(∃v∈vs,N7 v k)\/bC S' k=bC S k
def KA(T:List TypeId)(R:Array Oper)(op:Op)(tm:List (Nat×V))(S S':Store):Prop:=match op with
 | .call {callee:=.value x,args:=Bu,argTypes:=ts}=>wX T R (.call {callee:=.value x,args:=Bu,argTypes:=ts})=3->Un (JC tm Bu.toList) S S'
 |_=>True
section
variable {P:Program} {N:Nat} {S:Store} {s:St} {tm:List (Nat×V)} {T:List TypeId} {R:Array Oper}
def Dl(P:Program)(T:List TypeId)(R:Array Oper):List Oper->St->(St->Prop)->Prop
 |[],s,K=>K s
 |o::os,s,K=>tC P (wX T R) R o s fun s'=>KA T R o.op s.tm s.st s'.st/\Dl P T R os s' K
theorem ahU{op:Op}(h:2<=wX T R op):wX T R op=3\/(List.range R.size).all (fun i=>match R[i]? with
 |some o=>(DR op !=DR o.op)||TY R i
 |none=>true)=true:=by
 unfold wX at h ⊢;split at h
 ·rename_i e;split at h
  ·rename_i hc;left;rw[if_pos hc]
  ·omega
 ·rename_i m hm;right;unfold Dh at h;split at h
  ·rename_i hq;exact hq
  ·omega
theorem aln{o:Oper}{i j:Nat}(ho:R[i]? =some o)(hj:j<R.size)(hij:i≠j)(h:(List.range R.size).all (fun i=>match R[i]? with
 |some o'=>(DR o.op !=DR o'.op)||TY R i
 |none=>true)=true):wF R i j=true:=by
 have hi:i<R.size:=(bj.1 ho).1;have h1:=az.1 h i (cw.2 hi);rw[ho] at h1;simp only[bne_self_eq_false,ed] at h1;have h2:=az.1 h1 j (cw.2 hj);unfold wF;have hne:¬j=i:=fun e=>hij e.symm;simp only[hne,decide_false,ed] at h2;by_cases e:i<j
 ·rw[if_pos e];rwa [if_neg gA] at h2
 ·rw[if_neg e];rwa [if_pos gA] at h2
theorem ahV{o:Oper}{s s':St}{v:V}(ht:pQ P (wX T R) R o s v s')(hf:KA T R o.op s.tm s.st s'.st)(hc:kZ o.op=true)(hm:wX T R o.op=3){k:Key}
 (hk:∀a∈Xt o.op,∀k',JE (ev s.tm a)=some k'->k'≠k):bC s'.st k=bC s.st k:=by
 obtain⟨dst,op,ty,pos,after,guard⟩:=o
 cases op with
 |call c=>
  obtain⟨DL,args,ts⟩:=c
  cases DL with
  |value f=>
   rcases hf hm k with⟨v,hv,hr⟩|h
   ·obtain⟨a,ha,rfl⟩:=cr.1 hv;exact absurd rfl (hk a ha k (Vn hr))
   ·exact h
  |_=>cases hc
 |_=>cases hc
theorem aeU{v w:V}(h:aeT v w=true){k k':Key}(hv:JE v=some k')(hw:N7 w k):k'≠k:=by
 unfold aeT at h;rw[hv,Vn hw] at h;exact alm h
theorem aoR{st:Nat->St}{vs:Nat->V}{p:Nat}(hok:Gw T R N p=true)
 (hF:∀i,i<R.size->∃o,R[i]? =some o/\pQ P (wX T R) R o (st i) (vs i) (st (i+1))/\KA T R o.op (st i).tm (st i).st (st (i+1)).st)(hl:Xu (wX T R) R (st R.size).tm=true):Vf (wX T R) R N st p:=by
 unfold Gw at hok;rw[ai] at hok;have Ch:=acH hok.1;obtain⟨hed,h2⟩:=Rc (f:=fun i j x y=>Mr T R p i j x y) hok.2
 have hT:∀i,i<R.size->∃o,R[i]? =some o/\pQ P (wX T R) R o (st i) (vs i) (st (i+1)):=fun i hi=>by
  obtain⟨o,a,b,_⟩:=hF i hi;exact⟨o,a,b⟩
 refine⟨?_,?_,?_,?_,Ch⟩
 ·intro i o e ho he hb;have h2:=hed i o ho;simp only[ai] at h2;have h3:=az.1 h2.1 e (by simpa using he);simpa [hb] using h3
 ·intro i o ho d hd;have h2:=hed i o ho;simp only[ai,hd] at h2;simpa using h2.2
 ·intro i j x y hij hx hy hc;rcases h2 i j x y hij hx hy with h|h
  ·exact .inl h
  ·unfold Mr at h;unfold pU at hc;rw[du,fy] at h;rw[h.1] at hc;simp only[ft,ed] at hc;by_cases e:j=p
   ·exact .inr ⟨e,(ai _ _▸hc).1,h.1⟩
   ·have h3:=h.2;simp only[e,decide_false,fL,cd,du] at h3;rw[hc] at h3;cases h3.1.1
 ·intro i j x o hij hx ho hs hD hc
  have hjp:j≠p:=fun e=>by
   subst e;have:=(yw (E:=wX T R) (Ch o ho).1).1;rw[hD] at this;cases this
  have Vg:i≠p:=fun e=>by
   subst e;have:=(yw (E:=wX T R) (Ch x hx).1).2.1;rw[hs] at this;cases this
  cases hb:wF R i j with
  |true=>exact .inl rfl
  |false=>
   refine .inr ?_;rintro k ⟨hmv,z,hz,hk⟩;have hi:i<R.size:=(bj.1 hx).1;have hj:j<R.size:=(bj.1 ho).1
   have hlo:Oh R i x j o=true:=by
    unfold wF at hb;by_cases e:i<j
    ·rw[if_pos e] at hb;rcases h2 i j x o e hx ho with h|h
     ·rw[hb] at h;cases h
     ·simp only[Mr,hjp,decide_false,fL,hs,cd,du,fy] at h;exact h.2.1.2
    ·rw[if_neg e] at hb;rcases h2 j i o x gA ho hx with h|h
     ·rw[hb] at h;cases h
     ·simp only[Mr,Vg,decide_false,fL,hs,cd,du,fy] at h;exact h.2.2
   unfold Oh at hlo;rw[hc,ed,ai,ai] at hlo;obtain⟨⟨hop,hsa⟩,hsy⟩:=hlo
   have hz':z∈o.op.operands.toList:=by simpa using hz
   have hsz:=az.1 hsy z hz';have h1:=az.1 hl i (cw.2 hi);rw[hx] at h1;simp only[hs,ft,ed] at h1
   have key:∀a∈Xt x.op,∀k',JE (ev (st i).tm a)=some k'->k'≠k:=fun a ha k' hk'=>by
    have h3:=az.1 h1 a ha;have h4:=az.1 h3 j (cw.2 hj);rw[ho] at h4;simp only[hb,hD,hc,hmv,ed] at h4;have h5:=az.1 h4 z hz';rw[Fp hT gA (az.1 hsa a ha),Fp hT gA hsz] at h5;exact aeU h5 hk' hk
   obtain⟨x',hx',ht,hf⟩:=hF i hi;rw[hx] at hx';cases hx';split at hop
   ·rename_i t a y e;refine OW e ht fun k' hk'=>key a (by rw[e];exact ej.2 rfl) k' ?_;rcases hk' with⟨_,h⟩|⟨_,_,h⟩|⟨_,_,_,_,_,h⟩<;>rw[h]<;>rfl
   ·rename_i f Bu ts e
    have hcv:kZ x.op=true:=by rw[e];rfl
    have h2m:2<=wX T R x.op:=by
     unfold nN at hs
     have hns:Cv x.op=false:=by rw[e];rfl
     rw[hns,ed,ai,decide_eq_true_eq] at hs;exact hs.1
    rcases ahU h2m with h3|h3
    ·exact ahV ht hf hcv h3 key
    ·rw[aln hx hj hij h3] at hb;cases hb
   ·cases hop
theorem aby{id:Nat}{Q:Exit->St->Prop}{s:St}(gP:P.follows .mixedOrders=true)(hok:acQ T R N=true)(h:Dl P T R R.toList s (fun s'=>Xu (wX T R) R s'.tm=true/\Q .normal s')):AW P N (.region id R true) Q s:=by
 obtain⟨st,vs,h0,hK,hT⟩:=Me (F:=fun o s s'=>KA T R o.op s.tm s.st s'.st) (D:=fun os s=>Dl P T R os s (fun s'=>Xu (wX T R) R s'.tm=true/\Q .normal s')) (fun _ h=>h) (fun o os s h=>by
  obtain⟨v,s',a,b⟩:=OV h
  exact⟨v,s',a,b⟩) R.size 0 gA s h
 have hT':=fun i hi=>hT i (an i) hi;refine Kq (vs:=vs) gP h0 hK.2 (fun i hi=> ?_) (aoR hok hT' hK.1);obtain⟨o,a,b,_⟩:=hT' i hi;exact⟨o,a,b⟩
def Rv(E:Md)(R:Array Oper)(K:St->Prop)(s:St):Prop:=Xu E R s.tm=true/\K s
@[congr] theorem aqX {E:Md} {R:Array Oper} {K:St->Prop} {s s':St} (h2:s=s'):Rv E R K s=Rv E R K s':=by rw[h2]
def JF(P:Program)(T:List TypeId)(R:Array Oper)(os:List Oper)(K:St->Prop)(s:St):Prop:=Dl P T R os s K
def Rw(P:Program)(T:List TypeId)(R:Array Oper)(op:Op)(tm:List (Nat×V))(S:Store)(os:List Oper)(K:St->Prop)(s':St):Prop:=KA T R op tm S s'.st/\JF P T R os K s'
@[congr] theorem asv {os:List Oper} {s s':St} {K:St->Prop} (h2:s=s'):Dl P T R os s K=Dl P T R os s' K:=by rw[h2]
@[congr] theorem aqY {os:List Oper} {s s':St} {K:St->Prop} (h2:s=s'):JF P T R os K s=JF P T R os K s':=by rw[h2]
@[congr] theorem asw {op:Op} {os:List Oper} {s s':St} {K:St->Prop} (h2:s=s'):Rw P T R op tm S os K s=Rw P T R op tm S os K s':=by rw[h2]
theorem ahW{K:St->Prop}:Dl P T R [] ⟨tm,S⟩ K=K ⟨tm,S⟩:=rfl
theorem aeV{o:Oper}{os:List Oper}{K:St->Prop}:Dl P T R (o::os) ⟨tm,S⟩ K=tC P (wX T R) R o ⟨tm,S⟩ (Rw P T R o.op tm S os K):=rfl
theorem aeW{K:St->Prop}:JF P T R [] K ⟨tm,S⟩=K ⟨tm,S⟩:=rfl
theorem abz{o:Oper}{os:List Oper}{K:St->Prop}:JF P T R (o::os) K ⟨tm,S⟩=tC P (wX T R) R o ⟨tm,S⟩ (Rw P T R o.op tm S os K):=rfl
theorem alo{op:Op}{os:List Oper}{K:St->Prop}{tm':List (Nat×V)}{S':Store}:Rw P T R op tm S os K ⟨tm',S'⟩=(KA T R op tm S S'/\JF P T R os K ⟨tm',S'⟩):=rfl
theorem ahX{vs:List V}:Un vs S S=True:=by simp[Un]
theorem alp{vs:List V}{k:Key}{off:Nat}{x:Obj}:Un (.c (.ptr k off)::vs) S (bA S k x)=True:=by
 refine eq_true fun k'=> ?_;by_cases e:k=k'
 ·subst e;exact .inl ⟨_,ey,.inl ⟨_,rfl⟩⟩
 ·exact .inr (fV _ _ _ _ e)
theorem Vo{vs:List V}{l j off:Nat}{fr:List Obj}{x:Obj}:Un (.c (.ptr (1+l,j) off)::vs) (fr::S) (fr::bA S (l,j) x)=True:=by
 have:=alp (S:=fr::S) (vs:=vs) (k:=(1+l,j)) (off:=off) (x:=x)
 rwa [dn] at this
theorem ahY{vs:List V}{l j off:Nat}{fr:List Obj}{x y:Obj}:Un (.c (.ptr (1+l,j) off)::vs) (fr::bA S (l,j) x) (fr::bA S (l,j) y)=True:=by
 have:=Vo (S:=bA S (l,j) x) (vs:=vs) (l:=l) (j:=j) (off:=off) (fr:=fr) (x:=y)
 rwa [cu] at this
theorem aqZ{p:Prop}:(p->True)=True:=gL
def oZ(P:Program)(N:Nat)(T:List TypeId):Code->(Exit->St->Prop)->St->Prop
 | .seq x y,Q,s=>oZ P N T x (mG (oZ P N T y Q) Q) s
 | .region _ R true,Q,s=>Dl P T R R.toList s (Rv (wX T R) R (Q .normal))
 | .region id R false,Q,s=>CW P N (.region id R false) Q s
 | .cond c x y,Q,s=>Fq (ev s.tm c) (oZ P N T x Q) (oZ P N T y Q) s
 | .block id c,Q,s=>oZ P N T c (Bv id Q) s
 | .exit id,Q,s=>CW P N (.exit id) Q s
 | .ret,Q,s=>CW P N .ret Q s
 | .skip,Q,s=>CW P N .skip Q s
 | .loop c,Q,s=>CW P N (.loop c) Q s
 |_,_,_=>False
def qd(T:List TypeId)(N:Nat):Code->Bool
 | .seq x y=>qd T N x&&qd T N y
 | .region _ R true=>acQ T R N
 | .cond _ x y=>qd T N x&&qd T N y
 | .block _ c=>qd T N c
 | .loop _=>true
 |c=>codeOk N c
theorem o9(gP:P.follows .mixedOrders=true):∀(c:Code)(Q:Exit->St->Prop)(s:St),qd T N c=true->oZ P N T c Q s->AW P N c Q s
 | .seq x y,Q,s,ok,h=>by
   simp only[qd,ai] at ok;refine L6 (AW.mono (o9 gP x _ s ok.1 h) fun e s' h'=> ?_)
   cases e with
   |normal=>exact o9 gP y Q s' ok.2 h'
   |_=>exact h'
 | .region _ R true,Q,s,ok,h=>aby gP ok h
 | .region id R false,Q,s,ok,h=>lG gP _ Q s ok h
 | .cond c x y,Q,s,ok,h=>by
   simp only[qd,ai] at ok;simp only[oZ,Fq] at h;split at h
   ·rename_i b hb;exact NU hb (fun e=>o9 gP x Q s ok.1 (h.1 e)) (fun e=>o9 gP y Q s ok.2 (h.2 e))
   ·exact h.elim
 | .block id c,Q,s,ok,h=>PD (o9 gP c _ s ok h)
 | .exit id,Q,s,ok,h=>lG gP _ Q s ok h
 | .ret,Q,s,ok,h=>lG gP _ Q s ok h
 | .skip,Q,s,ok,h=>lG gP _ Q s ok h
 | .loop c,Q,s,ok,h=>by
   rw[oZ,acJ] at h;exact h
 | .rangeFunc _ _ _ _,Q,s,ok,h=>h.elim
 | .scope _,Q,s,ok,h=>h.elim
 | .label _,Q,s,ok,h=>h.elim
 | .goto _,Q,s,ok,h=>h.elim
 | .refuse _,Q,s,ok,h=>h.elim
theorem aoS{x y:Code}{Q:Exit->St->Prop}:oZ P N T (.seq x y) Q s=oZ P N T x (mG (oZ P N T y Q) Q) s:=by rw[oZ]
theorem alq{id:Nat}{l:List Oper}{Q:Exit->St->Prop}:oZ P N T (.region id ⟨l⟩ true) Q s=Dl P T ⟨l⟩ l s (Rv (wX T ⟨l⟩) ⟨l⟩ (Q .normal)):=by rw[oZ]
theorem aeX{id:Nat}{l:List Oper}{Q:Exit->St->Prop}:oZ P N T (.region id ⟨l⟩ false) Q s=CW P N (.region id ⟨l⟩ false) Q s:=by rw[oZ]
theorem alr{c:Operand}{x y:Code}{Q:Exit->St->Prop}:oZ P N T (.cond c x y) Q s=Fq (ev s.tm c) (oZ P N T x Q) (oZ P N T y Q) s:=by rw[oZ]
theorem ahZ{id:Nat}{c:Code}{Q:Exit->St->Prop}:oZ P N T (.block id c) Q s=oZ P N T c (Bv id Q) s:=by rw[oZ]
theorem als{id:Nat}{Q:Exit->St->Prop}:oZ P N T (.exit id) Q s=CW P N (.exit id) Q s:=by rw[oZ]
theorem aoT{Q:Exit->St->Prop}:oZ P N T .ret Q s=CW P N .ret Q s:=by rw[oZ]
theorem alu{Q:Exit->St->Prop}:oZ P N T .skip Q s=CW P N .skip Q s:=by rw[oZ]
theorem alv{c:Code}{Q:Exit->St->Prop}:oZ P N T (.loop c) Q s=CW P N (.loop c) Q s:=by rw[oZ]
theorem KC{ι:Type}{c:Code}{Q:Exit->St->Prop}(T:List TypeId)(gP:P.follows .mixedOrders=true)(hok:qd T N c=true)(ts:List Nat)(f:ι->List V)(g:ι->Store)(p:ι->Prop)(μ:ι->Nat)(i0:ι)
 (h1:ts.map (look s.tm)=f i0)(h2:s.st=g i0)(h3:p i0)
 (round:∀i,p i->oZ P N T c (mG (Inv N ts f g p μ i) Q) ⟨iy ts (f i),g i⟩):AW P N (.loop c) Q s:=by
 refine acE (ι:=ι) (fun i s=>∃s0,iK N s s0/\ts.map (look s0.tm)=f i/\s0.st=g i/\p i) μ i0 ⟨s,iK.refl _ _,h1,h2,h3⟩ fun i s hI=> ?_;obtain⟨s0,hg,h1,h2,h3⟩:=hI;refine mO ?_ hg
 have hr:=(o9 gP c _ _ hok (round i h3)).mono (Q':=mG (fun s'=>∃j,μ j<μ i/\∃s0,iK N s' s0/\ts.map (look s0.tm)=f j/\s0.st=g j/\p j) Q) fun e s' h=>by
  cases e with
  |normal=>
   obtain⟨j,s0,a1,a2,a3,a4,a5⟩:=h;exact⟨j,a1,s0,a2,a3,a4,a5⟩
  |_=>exact h
 obtain⟨tm,st⟩:=s0;simp only at h1 h2;subst h2;rw[<-h1] at hr;exact ad8 hr fun t=>Cx _ ts t
theorem nT(T:List TypeId){f:FuncId}{fn:Func}{c:Code}{args:List V}{post:V->Store->Prop}{rs:List ResultVar}(gP:P.follows .mixedOrders=true)(hf:P.funcs[f]? =some fn)(hN:fn.ntmps=N)
 (hb:fn.body=some c) (hn:(fn.name== "runtime.NumGoroutine")=false) (hr:fn.results.toList=rs) (hl:Nat.ble args.length N=true) (hok:qd T N c=true)
 (h:oZ P N T c (PS P rs post) ⟨mV (args.map (V.up 1)) 0,[]::S⟩):bS P f args S post:=by
 subst hN;subst hr;exact sP hf hb hn (dd hl) (yA yx (o9 gP c _ _ hok h))
end
attribute [go_sem ↓] aoS alq aeX alr ahZ als aoT alu alv ahW aeV aeW abz
attribute [go_sem] alo KA ahX Vo ahY aqZ
end Go.Ab