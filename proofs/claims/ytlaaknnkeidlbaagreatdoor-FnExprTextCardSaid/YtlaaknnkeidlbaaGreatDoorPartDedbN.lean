/-
  SEVERAL TEXTS IN ONE (merged by program): contracts and models, each with its own heading.
-/
import Derived.Test.YtlaaknnkeidlbaaGreatDoorPartDedbH
set_option linter.unusedSimpArgs false
set_option linter.unusedVariables false
namespace Go.Ab
def aiD(T:List TypeId):Op->Bool
 | .call {callee:=.value _,args:=_,argTypes:=ts}=> !(ts.toList.all fun t=>T.all fun u=> !(t==u))
 | .call {callee:=.builtin .append,args:=_,argTypes:=ts}=> !(ts.toList.all fun t=>T.all fun u=> !(t==u))
 |_=>false
def p8(T:List TypeId)(R:Array Oper):Md:=fun op=>match(if isApp op then 0 else vN R 0 op) with
 |0=>if aiD T op then 3 else 0
 |m=>m
def zl:V->Option Key
 | .c (.ptr k _)=>some k
 | .c (.jv k _ _)=>some k
 | .c (.fD k)=>some k
 | .c (.mp k)=>some k
 | .c (.xp k _ _)=>some k
 | .c (.xq k _ _ _ _ _)=>some k
 |_=>none
theorem Me{v:V}{k:Key}(h:E8 v k):zl v=some k:=by
 rcases h with⟨_,rfl⟩|⟨_,_,rfl⟩|rfl|rfl|⟨_,_,rfl⟩|⟨_,_,_,_,_,rfl⟩<;>rfl
def VT:Key->Key->Bool
 |(0,a),(0,b)=>a !=b
 |(0,_),(_+1,_)=>true
 |(_+1,_),(0,_)=>true
 |_,_=>false
theorem acr{k k':Key}(h:VT k k'=true):k≠k':=by
 rintro rfl;obtain⟨l,j⟩:=k;cases l<;>simp[VT] at h
def VU(v w:V):Bool:=match zl v,zl w with
 |some k,some k'=>VT k k'
 |_,_=>true
def Np:Op->List Operand
 | .store _ a _=>[a]
 | .call {callee:=.value _,args:=lH,argTypes:=_}=>lH.toList
 | .call {callee:=.builtin .append,args:=lH,argTypes:=_}=>lH.toList.take 1
 |_=>[]
def Fz(R:Array Oper)(i:Nat)(x:Oper)(j:Nat)(y:Oper):Bool:=gP y.op||(match x.op with
 | .store _ _ _=>true
 | .call {callee:=.value _,args:=_,argTypes:=_}=>true
 | .call {callee:=.builtin .append,args:=_,argTypes:=_}=>true
 |_=>false)&&(Np x.op).all (settled R i)&&y.op.operands.toList.all (settled R j)
def Ef(T:List TypeId)(R:Array Oper)(p i j:Nat)(x y:Oper):Bool:= !(x.apart R y)||(!(decide (j=p))&&((dO (p8 T R) x.op&&dO (p8 T R) y.op)||(jJ (p8 T R) x.op&& !(Fz R i x j y))||(jJ (p8 T R) y.op&& !(Fz R j y i x))))
def zm(T:List TypeId)(R:Array Oper)(N p:Nat):Bool:=Dr (p8 T R) R p&&
 (List.range R.size).all fun j=>
   (match R[j]? with
    |some o=>o.after.toList.all (fun e=> !Region.binds .any e||decide (e.on<j))&&(match o.dst with|some d=>decide (d<N)|none=>true)
    |none=>true)&&
   (List.range j).all fun i=>
     match R[i]?,R[j]? with
     |some x,some y=>((masks R.toList []).getD j 0).testBit i|| !(Ef T R p i j x y)
     |_,_=>true
def ajY(T:List TypeId)(R:Array Oper)(N:Nat):Nat:=if zm T R N R.size then R.size else((List.range R.size).find? fun p=>Gu R p&&zm T R N p).getD R.size
def Tx(T:List TypeId)(R:Array Oper)(N:Nat):Bool:=zm T R N (ajY T R N)
def Nq(E:Md)(R:Array Oper)(tm:List (Nat×V)):Bool:=
 (List.range R.size).all fun i=>match R[i]? with
   |some x=> !(jJ E x.op)||(Np x.op).all fun a=>(List.range R.size).all fun j=>match R[j]? with
     |some y=>oZ R i j||dO E y.op||gP y.op||Uz y.op||y.op.operands.toList.all (fun z=>VU (ev tm a) (ev tm z))
     |none=>true
   |none=>true
def GR(vs:List V)(S S':Store):Prop:=∀k,(∃v∈vs,E8 v k)\/aN S' k=aN S k
def Cj(T:List TypeId)(R:Array Oper)(op:Op)(tm:List (Nat×V))(S S':Store):Prop:=match op with
 | .call {callee:=.value x,args:=lH,argTypes:=ts}=>p8 T R (.call {callee:=.value x,args:=lH,argTypes:=ts})=3->GR (AY tm lH.toList) S S'
 |_=>True
section
variable {P:Program} {N:Nat} {S:Store} {s:St} {tm:List (Nat×V)} {T:List TypeId} {R:Array Oper}
def vU(P:Program)(T:List TypeId)(R:Array Oper):List Oper->St->(St->Prop)->Prop
 |[],s,K=>K s
 |o::os,s,K=>mH P (p8 T R) R o s fun s'=>Cj T R o.op s.tm s.st s'.st/\vU P T R os s' K
theorem Zi{E:Md}{o:Oper}{s s':St}{v:V}{lH:Array Operand}{ts:Array TypeId}(e:o.op=.call {callee:=.builtin .append,args:=lH,argTypes:=ts})(h:jZ P E R o s v s'){k:Key}
 (hk:∀a∈lH.toList.take 1,∀k',zl (ev s.tm a)=some k'->k'≠k):KS k s.st s'.st:=by
 rcases h with⟨_,_,h⟩|⟨_,_,_,h⟩|⟨_,_,h,_,_⟩
 ·rw[h];cases o.dst<;>exact KS.same rfl
 ·rw[h];cases o.dst<;>exact KS.same rfl
 ·rcases rX h with h|⟨x,y,t,u,k',h1,h2,_,h4⟩
  ·exact Oy (by rw[e];rfl) (by rw[e];rfl) h k
  ·rw[h1] at e;cases e;have hne:k'≠k:=hk x (by simp) k' (by rw[h2];rfl);unfold lU at h4;split at h4
   ·obtain⟨_,_,_,_,_,h6⟩:=h4;obtain⟨tm,st⟩:=s;intro ob Oj;left;unfold newObj at h6;split at h6
    ·rename_i own Ω hst;rw[<-h6,jw];refine gV _ _ _ _ _ ?_;rw[<-hst];exact(dx _ _ _ _ hne).trans Oj
    ·exact h6.elim
   ·exact h4.elim
theorem Zj{op:Op}(hcv:gP op=true)(h:2<=p8 T R op):p8 T R op=3\/(List.range R.size).all (fun i=>match R[i]? with
 |some o=>(wE op !=wE o.op)||Ky R i
 |none=>true)=true:=by
 have hna:isApp op=false:=by
  unfold gP at hcv;split at hcv
  ·rfl
  ·cases hcv
 unfold p8 at h ⊢;simp only[hna,eq,if_false] at h ⊢;split at h
 ·rename_i e;split at h
  ·rename_i hc;left;rw[if_pos hc]
  ·omega
 ·rename_i m hm;right;unfold vN at h;split at h
  ·rename_i hq;exact hq
  ·omega
theorem acs{o:Oper}{i j:Nat}(ho:R[i]? =some o)(hj:j<R.size)(hij:i≠j)(h:(List.range R.size).all (fun i=>match R[i]? with
 |some o'=>(wE o.op !=wE o'.op)||Ky R i
 |none=>true)=true):oZ R i j=true:=by
 have hi:i<R.size:=(aE.1 ho).1;have h1:=aS.1 h i (bP.2 hi);rw[ho] at h1;simp only[bne_self_eq_false,dm] at h1;have h2:=aS.1 h1 j (bP.2 hj);unfold oZ;have hne:¬j=i:=fun e=>hij e.symm;simp only[hne,decide_false,dm] at h2;by_cases e:i<j
 ·rw[if_pos e];rwa [if_neg (by omega)] at h2
 ·rw[if_neg e];rwa [if_pos (by omega)] at h2
theorem Zk{o:Oper}{s s':St}{v:V}(ht:jZ P (p8 T R) R o s v s')(hf:Cj T R o.op s.tm s.st s'.st)(hc:gP o.op=true)(hm:p8 T R o.op=3){k:Key}
 (hk:∀a∈Np o.op,∀k',zl (ev s.tm a)=some k'->k'≠k):aN s'.st k=aN s.st k:=by
 obtain⟨dst,op,ty,pos,after,guard⟩:=o
 cases op with
 |call c=>
  obtain⟨wC,args,ts⟩:=c
  cases wC with
  |value f=>
   rcases hf hm k with⟨v,hv,hr⟩|h
   ·obtain⟨a,ha,rfl⟩:=da.1 hv;exact absurd rfl (hk a ha k (Me hr))
   ·exact h
  |_=>cases hc
 |_=>cases hc
theorem VW{v w:V}(h:VU v w=true){k k':Key}(hv:zl v=some k')(hw:E8 w k):k'≠k:=by
 unfold VU at h;rw[hv,Me hw] at h;exact acr h
theorem ae9{st:Nat->St}{vs:Nat->V}{p:Nat}(hok:zm T R N p=true)
 (hF:∀i,i<R.size->∃o,R[i]? =some o/\jZ P (p8 T R) R o (st i) (vs i) (st (i+1))/\Cj T R o.op (st i).tm (st i).st (st (i+1)).st)(hl:Nq (p8 T R) R (st R.size).tm=true):Lx (p8 T R) R N st p:=by
 unfold zm at hok;rw[af] at hok;have uU:=Te hok.1;obtain⟨hed,h2⟩:=Iw (f:=fun i j x y=>Ef T R p i j x y) hok.2
 have hT:∀i,i<R.size->∃o,R[i]? =some o/\jZ P (p8 T R) R o (st i) (vs i) (st (i+1)):=fun i hi=>by
  obtain⟨o,a,b,_⟩:=hF i hi;exact⟨o,a,b⟩
 refine⟨?_,?_,?_,?_,uU⟩
 ·intro i o e ho he hb;have h2:=hed i o ho;simp only[af] at h2;have h3:=aS.1 h2.1 e (by simpa using he);simpa [hb] using h3
 ·intro i o ho d hd;have h2:=hed i o ho;simp only[af,hd] at h2;simpa using h2.2
 ·intro i j x y hij hx hy hc;rcases h2 i j x y hij hx hy with h|h
  ·exact .inl h
  ·unfold Ef at h;unfold kJ at hc;rw[cR,eN] at h;rw[h.1] at hc;simp only[eL,dm] at hc;by_cases e:j=p
   ·exact .inr ⟨e,(af _ _▸hc).1,h.1⟩
   ·have h3:=h.2;simp only[e,decide_false,fk,cg,cR] at h3;rw[hc] at h3;cases h3.1.1
 ·intro i j x o hij hx ho hs hD hc
  have hjp:j≠p:=fun e=>by
   subst e;have:=(qN (E:=p8 T R) (uU o ho).1).1;rw[hD] at this;cases this
  have LA:i≠p:=fun e=>by
   subst e;have:=(qN (E:=p8 T R) (uU x hx).1).2.1;rw[hs] at this;cases this
  cases hb:oZ R i j with
  |true=>exact .inl rfl
  |false=>
   refine .inr ?_;rintro k ⟨hmv,z,hz,hk⟩;have hi:i<R.size:=(aE.1 hx).1;have hj:j<R.size:=(aE.1 ho).1
   have hlo:Fz R i x j o=true:=by
    unfold oZ at hb;by_cases e:i<j
    ·rw[if_pos e] at hb;rcases h2 i j x o e hx ho with h|h
     ·rw[hb] at h;cases h
     ·simp only[Ef,hjp,decide_false,fk,hs,cg,cR,eN] at h;exact h.2.1.2
    ·rw[if_neg e] at hb;rcases h2 j i o x (by omega) ho hx with h|h
     ·rw[hb] at h;cases h
     ·simp only[Ef,LA,decide_false,fk,hs,cg,cR,eN] at h;exact h.2.2
   unfold Fz at hlo;rw[hc,dm,af,af] at hlo;obtain⟨⟨hop,hsa⟩,hsy⟩:=hlo
   have hz':z∈o.op.operands.toList:=by simpa using hz
   have hsz:=aS.1 hsy z hz';have h1:=aS.1 hl i (bP.2 hi);rw[hx] at h1;simp only[hs,eL,dm] at h1
   have key:∀a∈Np x.op,∀k',zl (ev (st i).tm a)=some k'->k'≠k:=fun a ha k' hk'=>by
    have h3:=aS.1 h1 a ha;have h4:=aS.1 h3 j (bP.2 hj);rw[ho] at h4;simp only[hb,hD,hc,hmv,dm] at h4;have h5:=aS.1 h4 z hz';rw[xW hT (by omega) (aS.1 hsa a ha),xW hT (by omega) hsz] at h5;exact VW h5 hk' hk
   obtain⟨x',hx',ht,hf⟩:=hF i hi;rw[hx] at hx';cases hx';split at hop
   ·rename_i t a y e;refine KS.same<|FX e ht fun k' hk'=>key a (by rw[e];exact eQ.2 rfl) k' ?_;rcases hk' with⟨_,h⟩|⟨_,_,h⟩|⟨_,_,_,_,_,h⟩<;>rw[h]<;>rfl
   ·rename_i f lH ts e
    have hcv:gP x.op=true:=by rw[e];rfl
    have h2m:2<=p8 T R x.op:=by
     unfold jJ at hs
     have hns:vg x.op=false:=by rw[e];rfl
     have hna:isApp x.op=false:=by rw[e];rfl
     rw[hns,hna,Bool.and_false,Bool.or_false,dm,af,decide_eq_true_eq] at hs;exact hs.1
    rcases Zj hcv h2m with h3|h3
    ·exact KS.same (Zk ht hf hcv h3 key)
    ·rw[acs hx hj hij h3] at hb;cases hb
   ·rename_i lH ts e;exact Zi e ht fun a ha k' hk'=>key a (by rw[e];exact ha) k' hk'
   ·cases hop
theorem Sd{id:Nat}{Q:Exit->St->Prop}{s:St}(dZ:P.follows .mixedOrders=true)(hok:Tx T R N=true)(h:vU P T R R.toList s (fun s'=>Nq (p8 T R) R s'.tm=true/\Q .normal s')):AW P N (.region id R true) Q s:=by
 obtain⟨st,vs,h0,hK,hT⟩:=Dv (F:=fun o s s'=>Cj T R o.op s.tm s.st s'.st) (D:=fun os s=>vU P T R os s (fun s'=>Nq (p8 T R) R s'.tm=true/\Q .normal s')) (fun _ h=>h) (fun o os s h=>by
  obtain⟨v,s',a,b⟩:=FW h
  exact⟨v,s',a,b⟩) R.size 0 (by omega) s h
 have hT':=fun i hi=>hT i (ba i) hi;refine BN (vs:=vs) dZ h0 hK.2 (fun i hi=> ?_) (ae9 hok hT' hK.1);obtain⟨o,a,b,_⟩:=hT' i hi;exact⟨o,a,b⟩
def Jz(E:Md)(R:Array Oper)(K:St->Prop)(s:St):Prop:=Nq E R s.tm=true/\K s
@[congr] theorem agS {E:Md} {R:Array Oper} {K:St->Prop} {s s':St} (h2:s=s'):Jz E R K s=Jz E R K s':=by rw[h2]
def Bh(P:Program)(T:List TypeId)(R:Array Oper)(os:List Oper)(K:St->Prop)(s:St):Prop:=vU P T R os s K
def JA(P:Program)(T:List TypeId)(R:Array Oper)(op:Op)(tm:List (Nat×V))(S:Store)(os:List Oper)(K:St->Prop)(s':St):Prop:=Cj T R op tm S s'.st/\Bh P T R os K s'
@[congr] theorem ahF {os:List Oper} {s s':St} {K:St->Prop} (h2:s=s'):vU P T R os s K=vU P T R os s' K:=by rw[h2]
@[congr] theorem agT {os:List Oper} {s s':St} {K:St->Prop} (h2:s=s'):Bh P T R os K s=Bh P T R os K s':=by rw[h2]
@[congr] theorem ahG {op:Op} {os:List Oper} {s s':St} {K:St->Prop} (h2:s=s'):JA P T R op tm S os K s=JA P T R op tm S os K s':=by rw[h2]
theorem Zl{K:St->Prop}:vU P T R [] ⟨tm,S⟩ K=K ⟨tm,S⟩:=rfl
theorem VX{o:Oper}{os:List Oper}{K:St->Prop}:vU P T R (o::os) ⟨tm,S⟩ K=mH P (p8 T R) R o ⟨tm,S⟩ (JA P T R o.op tm S os K):=rfl
theorem VY{K:St->Prop}:Bh P T R [] K ⟨tm,S⟩=K ⟨tm,S⟩:=rfl
theorem Sg{o:Oper}{os:List Oper}{K:St->Prop}:Bh P T R (o::os) K ⟨tm,S⟩=mH P (p8 T R) R o ⟨tm,S⟩ (JA P T R o.op tm S os K):=rfl
theorem acu{op:Op}{os:List Oper}{K:St->Prop}{tm':List (Nat×V)}{S':Store}:JA P T R op tm S os K ⟨tm',S'⟩=(Cj T R op tm S S'/\Bh P T R os K ⟨tm',S'⟩):=rfl
theorem Zm{vs:List V}:GR vs S S=True:=by simp[GR]
theorem acv{vs:List V}{k:Key}{off:Nat}{x:Obj}:GR (.c (.ptr k off)::vs) S (aR S k x)=True:=by
 refine eq_true fun k'=> ?_;by_cases e:k=k'
 ·subst e;exact .inl ⟨_,ez,.inl ⟨_,rfl⟩⟩
 ·exact .inr (dx _ _ _ _ e)
theorem Mf{vs:List V}{l j off:Nat}{fr:List Obj}{x:Obj}:GR (.c (.ptr (1+l,j) off)::vs) (fr::S) (fr::aR S (l,j) x)=True:=by
 have:=acv (S:=fr::S) (vs:=vs) (k:=(1+l,j)) (off:=off) (x:=x)
 rwa [j3] at this
theorem Zn{vs:List V}{l j off:Nat}{fr:List Obj}{x y:Obj}:GR (.c (.ptr (1+l,j) off)::vs) (fr::aR S (l,j) x) (fr::aR S (l,j) y)=True:=by
 have:=Mf (S:=aR S (l,j) x) (vs:=vs) (l:=l) (j:=j) (off:=off) (fr:=fr) (x:=y)
 rwa [nP] at this
theorem PY{vs:List V}{j off:Nat}{fr fr':List Obj}(h:fr'.set j .dead=fr.set j .dead):GR (.c (.ptr (0,j) off)::vs) (fr::S) (fr'::S):=by
 rintro⟨l,i⟩
 cases l with
 |succ l=>exact .inr (by rw[aV,aV])
 |zero=>
  by_cases e:i=j
  ·subst e;exact .inl ⟨_,ez,.inl ⟨_,rfl⟩⟩
  ·right;have:=congrArg (fun l=>l[i]?) h;simp only[cT (Ne.symm e)] at this;rw[aD,aD];exact this
theorem agU{p:Prop}:(p->True)=True:=by simp
def kL(P:Program)(N:Nat)(T:List TypeId):Code->(Exit->St->Prop)->St->Prop
 | .seq x y,Q,s=>kL P N T x (kU (kL P N T y Q) Q) s
 | .region _ R true,Q,s=>vU P T R R.toList s (Jz (p8 T R) R (Q .normal))
 | .region id R false,Q,s=>CW P N (.region id R false) Q s
 | .cond c x y,Q,s=>xX (ev s.tm c) (kL P N T x Q) (kL P N T y Q) s
 | .block id c,Q,s=>kL P N T c (uF id Q) s
 | .exit id,Q,s=>CW P N (.exit id) Q s
 | .ret,Q,s=>CW P N .ret Q s
 | .skip,Q,s=>CW P N .skip Q s
 | .loop c,Q,s=>CW P N (.loop c) Q s
 |_,_,_=>False
def lJ(T:List TypeId)(N:Nat):Code->Bool
 | .seq x y=>lJ T N x&&lJ T N y
 | .region _ R true=>Tx T R N
 | .cond _ x y=>lJ T N x&&lJ T N y
 | .block _ c=>lJ T N c
 | .loop _=>true
 |c=>codeOk N c
theorem lu(dZ:P.follows .mixedOrders=true):∀(c:Code)(Q:Exit->St->Prop)(s:St),lJ T N c=true->kL P N T c Q s->AW P N c Q s
 | .seq x y,Q,s,ok,h=>by
   simp only[lJ,af] at ok;refine Il (AW.mono (lu dZ x _ s ok.1 h) fun e s' h'=> ?_)
   cases e with
   |normal=>exact lu dZ y Q s' ok.2 h'
   |_=>exact h'
 | .region _ R true,Q,s,ok,h=>Sd dZ ok h
 | .region id R false,Q,s,ok,h=>iV dZ _ Q s ok h
 | .cond c x y,Q,s,ok,h=>by
   simp only[lJ,af] at ok;simp only[kL,xX] at h;split at h
   ·rename_i b hb;exact S9 hb (fun e=>lu dZ x Q s ok.1 (h.1 e)) (fun e=>lu dZ y Q s ok.2 (h.2 e))
   ·exact h.elim
 | .block id c,Q,s,ok,h=>Oq (lu dZ c _ s ok h)
 | .exit id,Q,s,ok,h=>iV dZ _ Q s ok h
 | .ret,Q,s,ok,h=>iV dZ _ Q s ok h
 | .skip,Q,s,ok,h=>iV dZ _ Q s ok h
 | .loop c,Q,s,ok,h=>by
   rw[kL,Tg] at h;exact h
 | .rangeFunc _ _ _ _,Q,s,ok,h=>h.elim
 | .scope _,Q,s,ok,h=>h.elim
 | .label _,Q,s,ok,h=>h.elim
 | .goto _,Q,s,ok,h=>h.elim
 | .refuse _,Q,s,ok,h=>h.elim
theorem afa{x y:Code}{Q:Exit->St->Prop}:kL P N T (.seq x y) Q s=kL P N T x (kU (kL P N T y Q) Q) s:=by rw[kL]
theorem acw{id:Nat}{l:List Oper}{Q:Exit->St->Prop}:kL P N T (.region id ⟨l⟩ true) Q s=vU P T ⟨l⟩ l s (Jz (p8 T ⟨l⟩) ⟨l⟩ (Q .normal)):=by rw[kL]
theorem VZ{id:Nat}{l:List Oper}{Q:Exit->St->Prop}:kL P N T (.region id ⟨l⟩ false) Q s=CW P N (.region id ⟨l⟩ false) Q s:=by rw[kL]
theorem acy{c:Operand}{x y:Code}{Q:Exit->St->Prop}:kL P N T (.cond c x y) Q s=xX (ev s.tm c) (kL P N T x Q) (kL P N T y Q) s:=by rw[kL]
theorem Zo{id:Nat}{c:Code}{Q:Exit->St->Prop}:kL P N T (.block id c) Q s=kL P N T c (uF id Q) s:=by rw[kL]
theorem acz{id:Nat}{Q:Exit->St->Prop}:kL P N T (.exit id) Q s=CW P N (.exit id) Q s:=by rw[kL]
theorem afb{Q:Exit->St->Prop}:kL P N T .ret Q s=CW P N .ret Q s:=by rw[kL]
theorem acA{Q:Exit->St->Prop}:kL P N T .skip Q s=CW P N .skip Q s:=by rw[kL]
theorem acB{c:Code}{Q:Exit->St->Prop}:kL P N T (.loop c) Q s=CW P N (.loop c) Q s:=by rw[kL]
theorem zn{ι:Type}{c:Code}{Q:Exit->St->Prop}(T:List TypeId)(dZ:P.follows .mixedOrders=true)(hok:lJ T N c=true)(ts:List Nat)(f:ι->List V)(g:ι->Store)(p:ι->Prop)(μ:ι->Nat)(i0:ι)
 (h1:ts.map (look s.tm)=f i0)(h2:s.st=g i0)(h3:p i0)
 (round:∀i,p i->kL P N T c (kU (Inv N ts f g p μ i) Q) ⟨qD ts (f i),g i⟩):AW P N (.loop c) Q s:=by
 refine Ta (ι:=ι) (fun i s=>∃s0,fQ N s s0/\ts.map (look s0.tm)=f i/\s0.st=g i/\p i) μ i0 ⟨s,fQ.refl _ _,h1,h2,h3⟩ fun i s hI=> ?_;obtain⟨s0,hg,h1,h2,h3⟩:=hI;refine kN ?_ hg
 have hr:=(lu dZ c _ _ hok (round i h3)).mono (Q':=kU (fun s'=>∃j,μ j<μ i/\∃s0,fQ N s' s0/\ts.map (look s0.tm)=f j/\s0.st=g j/\p j) Q) fun e s' h=>by
  cases e with
  |normal=>
   obtain⟨j,s0,a1,a2,a3,a4,a5⟩:=h;exact⟨j,a1,s0,a2,a3,a4,a5⟩
  |_=>exact h
 obtain⟨tm,st⟩:=s0;simp only at h1 h2;subst h2;rw[<-h1] at hr;exact adE hr fun t=>yY _ ts t
theorem tX(T:List TypeId){f:FuncId}{fn:Func}{c:Code}{args:List V}{post:V->Store->Prop}{rs:List ResultVar}(dZ:P.follows .mixedOrders=true)(hf:P.funcs[f]? =some fn)(hN:fn.ntmps=N)
 (hb:fn.body=some c) (hn:(fn.name== "runtime.NumGoroutine")=false) (hr:fn.results.toList=rs) (hl:Nat.ble args.length N=true) (hok:lJ T N c=true)
 (h:kL P N T c (Vd P rs post) ⟨jR (args.map (V.up 1)) 0,[]::S⟩):bL P f args S post:=by
 subst hN;subst hr;exact vM hf hb hn (cX hl) (II Dy (lu dZ c _ _ hok h))
end
attribute [go_sem ↓] afa acw VZ acy Zo acz afb acA acB Zl VX VY Sg
attribute [go_sem] acu Cj Zm Mf Zn agU
end Go.Ab