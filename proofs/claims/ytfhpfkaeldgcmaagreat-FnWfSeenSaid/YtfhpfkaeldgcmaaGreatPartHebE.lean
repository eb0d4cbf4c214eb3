/-
  SEVERAL TEXTS IN ONE (merged by program): contracts and models, each with its own heading.
-/
import Derived.Test.YtfhpfkaeldgcmaaGreatPartHebD
set_option linter.unusedSimpArgs false
set_option linter.unusedVariables false
namespace Go.Ab
def akU(T:List TypeId):Op->Bool
 | .call {callee:=.value _,args:=_,argTypes:=ts}=> !(ts.toList.all fun t=>T.all fun u=> !(t==u))
 |_=>false
def sj(T:List TypeId)(R:Array Oper):Md:=fun op=>match yK R 0 op with
 |0=>if akU T op then 3 else 0
 |m=>m
def DJ:V->Option Key
 | .c (.ptr k _)=>some k
 | .c (.kI k _ _)=>some k
 | .c (.iU k)=>some k
 | .c (.mp k)=>some k
 | .c (.xp k _ _)=>some k
 | .c (.xq k _ _ _ _ _)=>some k
 |_=>none
theorem Oc{v:V}{k:Key}(h:Ik v k):DJ v=some k:=by
 rcases h with⟨_,rfl⟩|⟨_,_,rfl⟩|rfl|rfl|⟨_,_,rfl⟩|⟨_,_,_,_,_,rfl⟩<;>rfl
def XG:Key->Key->Bool
 |(0,a),(0,b)=>a !=b
 |(0,_),(_+1,_)=>true
 |(_+1,_),(0,_)=>true
 |_,_=>false
theorem adU{k k':Key}(h:XG k k'=true):k≠k':=by
 rintro rfl;obtain⟨l,j⟩:=k;cases l<;>simp[XG] at h
def XH(v w:V):Bool:=match DJ v,DJ w with
 |some k,some k'=>XG k k'
 |_,_=>true
def PI:Op->List Operand
 | .store _ a _=>[a]
 | .call {callee:=.value _,args:=Cb,argTypes:=_}=>Cb.toList
 |_=>[]
def Iy(R:Array Oper)(i:Nat)(x:Oper)(j:Nat)(y:Oper):Bool:=jl y.op||(match x.op with
 | .store _ _ _=>true
 | .call {callee:=.value _,args:=_,argTypes:=_}=>true
 |_=>false)&&(PI x.op).all (settled R i)&&y.op.operands.toList.all (settled R j)
def Gv(T:List TypeId)(R:Array Oper)(p i j:Nat)(x y:Oper):Bool:= !(x.apart R y)||(!(decide (j=p))&&((fG (sj T R) x.op&&fG (sj T R) y.op)||(jU (sj T R) x.op&& !(Iy R i x j y))||(jU (sj T R) y.op&& !(Iy R j y i x))))
def Bo(T:List TypeId)(R:Array Oper)(N p:Nat):Bool:=Gc (sj T R) R p&&
 (List.range R.size).all fun j=>
   (match R[j]? with
    |some o=>o.after.toList.all (fun e=> !Region.binds .any e||decide (e.on<j))&&(match o.dst with|some d=>decide (d<N)|none=>true)
    |none=>true)&&
   (List.range j).all fun i=>
     match R[i]?,R[j]? with
     |some x,some y=>((masks R.toList []).getD j 0).testBit i|| !(Gv T R p i j x y)
     |_,_=>true
def amI(T:List TypeId)(R:Array Oper)(N:Nat):Nat:=if Bo T R N R.size then R.size else((List.range R.size).find? fun p=>JI R p&&Bo T R N p).getD R.size
def Vp(T:List TypeId)(R:Array Oper)(N:Nat):Bool:=Bo T R N (amI T R N)
def PK(E:Md)(R:Array Oper)(tm:List (Nat×V)):Bool:=
 (List.range R.size).all fun i=>match R[i]? with
   |some x=> !(jU E x.op)||(PI x.op).all fun a=>(List.range R.size).all fun j=>match R[j]? with
     |some y=>rM R i j||fG E y.op||jl y.op||WA y.op||y.op.operands.toList.all (fun z=>XH (ev tm a) (ev tm z))
     |none=>true
   |none=>true
def M9(vs:List V)(S S':Store):Prop:=∀k,(∃v∈vs,Ik v k)\/bn S' k=bn S k
def ED(T:List TypeId)(R:Array Oper)(op:Op)(tm:List (Nat×V))(S S':Store):Prop:=match op with
 | .call {callee:=.value x,args:=Cb,argTypes:=ts}=>sj T R (.call {callee:=.value x,args:=Cb,argTypes:=ts})=3->M9 (Dy tm Cb.toList) S S'
 |_=>True
section
variable {P:Program} {N:Nat} {S:Store} {s:St} {tm:List (Nat×V)} {T:List TypeId} {R:Array Oper}
def yP(P:Program)(T:List TypeId)(R:Array Oper):List Oper->St->(St->Prop)->Prop
 |[],s,K=>K s
 |o::os,s,K=>oq P (sj T R) R o s fun s'=>ED T R o.op s.tm s.st s'.st/\yP P T R os s' K
theorem aaC{op:Op}(h:2<=sj T R op):sj T R op=3\/(List.range R.size).all (fun i=>match R[i]? with
 |some o=>(ze op !=ze o.op)||MP R i
 |none=>true)=true:=by
 unfold sj at h ⊢;split at h
 ·rename_i e;split at h
  ·rename_i hc;left;rw[if_pos hc]
  ·omega
 ·rename_i m hm;right;unfold yK at h;split at h
  ·rename_i hq;exact hq
  ·omega
theorem adV{o:Oper}{i j:Nat}(ho:R[i]? =some o)(hj:j<R.size)(hij:i≠j)(h:(List.range R.size).all (fun i=>match R[i]? with
 |some o'=>(ze o.op !=ze o'.op)||MP R i
 |none=>true)=true):rM R i j=true:=by
 have hi:i<R.size:=(Array.getElem?_eq_some_iff.1 ho).1;have h1:=List.all_eq_true.1 h i (List.mem_range.2 hi);rw[ho] at h1;simp only[bne_self_eq_false,Bool.false_or] at h1;have h2:=List.all_eq_true.1 h1 j (List.mem_range.2 hj);unfold rM;have hne:¬j=i:=fun e=>hij e.symm;simp only[hne,decide_false,Bool.false_or] at h2;by_cases e:i<j
 ·rw[if_pos e];rwa [if_neg (by omega)] at h2
 ·rw[if_neg e];rwa [if_pos (by omega)] at h2
theorem aaD{o:Oper}{s s':St}{v:V}(ht:lC P (sj T R) R o s v s')(hf:ED T R o.op s.tm s.st s'.st)(hc:jl o.op=true)(hm:sj T R o.op=3){k:Key}
 (hk:∀a∈PI o.op,∀k',DJ (ev s.tm a)=some k'->k'≠k):bn s'.st k=bn s.st k:=by
 obtain⟨dst,op,ty,pos,after,guard⟩:=o
 cases op with
 |call c=>
  obtain⟨y9,args,ts⟩:=c
  cases y9 with
  |value f=>
   rcases hf hm k with⟨v,hv,hr⟩|h
   ·obtain⟨a,ha,rfl⟩:=List.mem_map.1 hv;exact absurd rfl (hk a ha k (Oc hr))
   ·exact h
  |_=>cases hc
 |_=>cases hc
theorem XI{v w:V}(h:XH v w=true){k k':Key}(hv:DJ v=some k')(hw:Ik w k):k'≠k:=by
 unfold XH at h;rw[hv,Oc hw] at h;exact adU h
theorem ag1{st:Nat->St}{vs:Nat->V}{p:Nat}(hok:Bo T R N p=true)
 (hF:∀i,i<R.size->∃o,R[i]? =some o/\lC P (sj T R) R o (st i) (vs i) (st (i+1))/\ED T R o.op (st i).tm (st i).st (st (i+1)).st)(hl:PK (sj T R) R (st R.size).tm=true):KR (sj T R) R N st p:=by
 unfold Bo at hok;rw[Bool.and_eq_true] at hok;have xQ:=MR hok.1;obtain⟨hed,h2⟩:=Ev (f:=fun i j x y=>Gv T R p i j x y) hok.2
 have hT:∀i,i<R.size->∃o,R[i]? =some o/\lC P (sj T R) R o (st i) (vs i) (st (i+1)):=fun i hi=>by
  obtain⟨o,a,b,_⟩:=hF i hi;exact⟨o,a,b⟩
 refine⟨?_,?_,?_,?_,xQ⟩
 ·intro i o e ho he hb;have h2:=hed i o ho;simp only[Bool.and_eq_true] at h2;have h3:=List.all_eq_true.1 h2.1 e (by simpa using he);simpa [hb] using h3
 ·intro i o ho d hd;have h2:=hed i o ho;simp only[Bool.and_eq_true,hd] at h2;simpa using h2.2
 ·intro i j x y hij hx hy hc;rcases h2 i j x y hij hx hy with h|h
  ·exact .inl h
  ·unfold Gv at h;unfold lW at hc;rw[Bool.or_eq_false_iff,Bool.not_eq_false'] at h;rw[h.1] at hc;simp only[Bool.not_true,Bool.false_or] at hc;by_cases e:j=p
   ·exact .inr ⟨e,(Bool.and_eq_true _ _▸hc).1,h.1⟩
   ·have h3:=h.2;simp only[e,decide_false,Bool.not_false,Bool.true_and,Bool.or_eq_false_iff] at h3;rw[hc] at h3;cases h3.1.1
 ·intro i j x o hij hx ho hs hD hc
  have hjp:j≠p:=fun e=>by
   subst e;have:=(tX (E:=sj T R) (xQ o ho).1).1;rw[hD] at this;cases this
  have NY:i≠p:=fun e=>by
   subst e;have:=(tX (E:=sj T R) (xQ x hx).1).2.1;rw[hs] at this;cases this
  cases hb:rM R i j with
  |true=>exact .inl rfl
  |false=>
   refine .inr ?_;rintro k ⟨hmv,z,hz,hk⟩;have hi:i<R.size:=(Array.getElem?_eq_some_iff.1 hx).1;have hj:j<R.size:=(Array.getElem?_eq_some_iff.1 ho).1
   have hlo:Iy R i x j o=true:=by
    unfold rM at hb;by_cases e:i<j
    ·rw[if_pos e] at hb;rcases h2 i j x o e hx ho with h|h
     ·rw[hb] at h;cases h
     ·simp only[Gv,hjp,decide_false,Bool.not_false,hs,Bool.true_and,Bool.or_eq_false_iff,Bool.not_eq_false'] at h;exact h.2.1.2
    ·rw[if_neg e] at hb;rcases h2 j i o x (by omega) ho hx with h|h
     ·rw[hb] at h;cases h
     ·simp only[Gv,NY,decide_false,Bool.not_false,hs,Bool.true_and,Bool.or_eq_false_iff,Bool.not_eq_false'] at h;exact h.2.2
   unfold Iy at hlo;rw[hc,Bool.false_or,Bool.and_eq_true,Bool.and_eq_true] at hlo;obtain⟨⟨hop,hsa⟩,hsy⟩:=hlo
   have hz':z∈o.op.operands.toList:=by simpa using hz
   have hsz:=List.all_eq_true.1 hsy z hz';have h1:=List.all_eq_true.1 hl i (List.mem_range.2 hi);rw[hx] at h1;simp only[hs,Bool.not_true,Bool.false_or] at h1
   have key:∀a∈PI x.op,∀k',DJ (ev (st i).tm a)=some k'->k'≠k:=fun a ha k' hk'=>by
    have h3:=List.all_eq_true.1 h1 a ha;have h4:=List.all_eq_true.1 h3 j (List.mem_range.2 hj);rw[ho] at h4;simp only[hb,hD,hc,hmv,Bool.false_or] at h4;have h5:=List.all_eq_true.1 h4 z hz';rw[Ah hT (by omega) (List.all_eq_true.1 hsa a ha),Ah hT (by omega) hsz] at h5;exact XI h5 hk' hk
   obtain⟨x',hx',ht,hf⟩:=hF i hi;rw[hx] at hx';cases hx';split at hop
   ·rename_i t a y e;refine Jc e ht fun k' hk'=>key a (by rw[e];exact List.mem_singleton.2 rfl) k' ?_;rcases hk' with⟨_,h⟩|⟨_,_,h⟩|⟨_,_,_,_,_,h⟩<;>rw[h]<;>rfl
   ·rename_i f Cb ts e
    have hcv:jl x.op=true:=by rw[e];rfl
    have h2m:2<=sj T R x.op:=by
     unfold jU at hs
     have hns:xZ x.op=false:=by rw[e];rfl
     rw[hns,Bool.false_or,Bool.and_eq_true,decide_eq_true_eq] at hs;exact hs.1
    rcases aaC h2m with h3|h3
    ·exact aaD ht hf hcv h3 key
    ·rw[adV hx hj hij h3] at hb;cases hb
   ·cases hop
theorem Uh{id:Nat}{Q:Exit->St->Prop}{s:St}(eH:P.follows .mixedOrders=true)(hok:Vp T R N=true)(h:yP P T R R.toList s (fun s'=>PK (sj T R) R s'.tm=true/\Q .normal s')):AW P N (.region id R true) Q s:=by
 obtain⟨st,vs,h0,hK,hT⟩:=Gg (F:=fun o s s'=>ED T R o.op s.tm s.st s'.st) (D:=fun os s=>yP P T R os s (fun s'=>PK (sj T R) R s'.tm=true/\Q .normal s')) (fun _ h=>h) (fun o os s h=>by
  obtain⟨v,s',a,b⟩:=Jb h
  exact⟨v,s',a,b⟩) R.size 0 (by omega) s h
 have hT':=fun i hi=>hT i (Nat.zero_le i) hi;refine Bf (vs:=vs) eH h0 hK.2 (fun i hi=> ?_) (ag1 hok hT' hK.1);obtain⟨o,a,b,_⟩:=hT' i hi;exact⟨o,a,b⟩
def K8(E:Md)(R:Array Oper)(K:St->Prop)(s:St):Prop:=PK E R s.tm=true/\K s
@[congr] theorem aiH {E:Md} {R:Array Oper} {K:St->Prop} {s s':St} (h2:s=s'):K8 E R K s=K8 E R K s':=by rw[h2]
def DK(P:Program)(T:List TypeId)(R:Array Oper)(os:List Oper)(K:St->Prop)(s:St):Prop:=yP P T R os s K
def K9(P:Program)(T:List TypeId)(R:Array Oper)(op:Op)(tm:List (Nat×V))(S:Store)(os:List Oper)(K:St->Prop)(s':St):Prop:=ED T R op tm S s'.st/\DK P T R os K s'
@[congr] theorem ajV {os:List Oper} {s s':St} {K:St->Prop} (h2:s=s'):yP P T R os s K=yP P T R os s' K:=by rw[h2]
@[congr] theorem aiI {os:List Oper} {s s':St} {K:St->Prop} (h2:s=s'):DK P T R os K s=DK P T R os K s':=by rw[h2]
@[congr] theorem ajW {op:Op} {os:List Oper} {s s':St} {K:St->Prop} (h2:s=s'):K9 P T R op tm S os K s=K9 P T R op tm S os K s':=by rw[h2]
theorem aaE{K:St->Prop}:yP P T R [] ⟨tm,S⟩ K=K ⟨tm,S⟩:=rfl
theorem XJ{o:Oper}{os:List Oper}{K:St->Prop}:yP P T R (o::os) ⟨tm,S⟩ K=oq P (sj T R) R o ⟨tm,S⟩ (K9 P T R o.op tm S os K):=rfl
theorem XK{K:St->Prop}:DK P T R [] K ⟨tm,S⟩=K ⟨tm,S⟩:=rfl
theorem Ui{o:Oper}{os:List Oper}{K:St->Prop}:DK P T R (o::os) K ⟨tm,S⟩=oq P (sj T R) R o ⟨tm,S⟩ (K9 P T R o.op tm S os K):=rfl
theorem adW{op:Op}{os:List Oper}{K:St->Prop}{tm':List (Nat×V)}{S':Store}:K9 P T R op tm S os K ⟨tm',S'⟩=(ED T R op tm S S'/\DK P T R os K ⟨tm',S'⟩):=rfl
theorem aaF{vs:List V}:M9 vs S S=True:=by simp[M9]
theorem adX{vs:List V}{k:Key}{off:Nat}{x:Obj}:M9 (.c (.ptr k off)::vs) S (aY S k x)=True:=by
 refine eq_true fun k'=> ?_;by_cases e:k=k'
 ·subst e;exact .inl ⟨_,List.mem_cons_self,.inl ⟨_,rfl⟩⟩
 ·exact .inr (eX _ _ _ _ e)
theorem Od{vs:List V}{l j off:Nat}{fr:List Obj}{x:Obj}:M9 (.c (.ptr (1+l,j) off)::vs) (fr::S) (fr::aY S (l,j) x)=True:=by
 have:=adX (S:=fr::S) (vs:=vs) (k:=(1+l,j)) (off:=off) (x:=x)
 rwa [ak] at this
theorem aaG{vs:List V}{l j off:Nat}{fr:List Obj}{x y:Obj}:M9 (.c (.ptr (1+l,j) off)::vs) (fr::aY S (l,j) x) (fr::aY S (l,j) y)=True:=by
 have:=Od (S:=aY S (l,j) x) (vs:=vs) (l:=l) (j:=j) (off:=off) (fr:=fr) (x:=y)
 rwa [ah] at this
theorem aiJ{p:Prop}:(p->True)=True:=by simp
def mE(P:Program)(N:Nat)(T:List TypeId):Code->(Exit->St->Prop)->St->Prop
 | .seq x y,Q,s=>mE P N T x (jG (mE P N T y Q) Q) s
 | .region _ R true,Q,s=>yP P T R R.toList s (K8 (sj T R) R (Q .normal))
 | .region id R false,Q,s=>CW P N (.region id R false) Q s
 | .cond c x y,Q,s=>yN (ev s.tm c) (mE P N T x Q) (mE P N T y Q) s
 | .block id c,Q,s=>mE P N T c (wT id Q) s
 | .exit id,Q,s=>CW P N (.exit id) Q s
 | .ret,Q,s=>CW P N .ret Q s
 | .skip,Q,s=>CW P N .skip Q s
 | .loop c,Q,s=>CW P N (.loop c) Q s
 |_,_,_=>False
def ou(T:List TypeId)(N:Nat):Code->Bool
 | .seq x y=>ou T N x&&ou T N y
 | .region _ R true=>Vp T R N
 | .cond _ x y=>ou T N x&&ou T N y
 | .block _ c=>ou T N c
 | .loop _=>true
 |c=>codeOk N c
theorem nX(eH:P.follows .mixedOrders=true):∀(c:Code)(Q:Exit->St->Prop)(s:St),ou T N c=true->mE P N T c Q s->AW P N c Q s
 | .seq x y,Q,s,ok,h=>by
   simp only[ou,Bool.and_eq_true] at ok;refine KM (AW.mono (nX eH x _ s ok.1 h) fun e s' h'=> ?_)
   cases e with
   |normal=>exact nX eH y Q s' ok.2 h'
   |_=>exact h'
 | .region _ R true,Q,s,ok,h=>Uh eH ok h
 | .region id R false,Q,s,ok,h=>gV eH _ Q s ok h
 | .cond c x y,Q,s,ok,h=>by
   simp only[ou,Bool.and_eq_true] at ok;simp only[mE,yN] at h;split at h
   ·rename_i b hb;exact MN hb (fun e=>nX eH x Q s ok.1 (h.1 e)) (fun e=>nX eH y Q s ok.2 (h.2 e))
   ·exact h.elim
 | .block id c,Q,s,ok,h=>JG (nX eH c _ s ok h)
 | .exit id,Q,s,ok,h=>gV eH _ Q s ok h
 | .ret,Q,s,ok,h=>gV eH _ Q s ok h
 | .skip,Q,s,ok,h=>gV eH _ Q s ok h
 | .loop c,Q,s,ok,h=>by
   rw[mE,M5] at h;exact h
 | .rangeFunc _ _ _ _,Q,s,ok,h=>h.elim
 | .scope _,Q,s,ok,h=>h.elim
 | .label _,Q,s,ok,h=>h.elim
 | .goto _,Q,s,ok,h=>h.elim
 | .refuse _,Q,s,ok,h=>h.elim
theorem ag2{x y:Code}{Q:Exit->St->Prop}:mE P N T (.seq x y) Q s=mE P N T x (jG (mE P N T y Q) Q) s:=by rw[mE]
theorem adY{id:Nat}{l:List Oper}{Q:Exit->St->Prop}:mE P N T (.region id ⟨l⟩ true) Q s=yP P T ⟨l⟩ l s (K8 (sj T ⟨l⟩) ⟨l⟩ (Q .normal)):=by rw[mE]
theorem XL{id:Nat}{l:List Oper}{Q:Exit->St->Prop}:mE P N T (.region id ⟨l⟩ false) Q s=CW P N (.region id ⟨l⟩ false) Q s:=by rw[mE]
theorem adZ{c:Operand}{x y:Code}{Q:Exit->St->Prop}:mE P N T (.cond c x y) Q s=yN (ev s.tm c) (mE P N T x Q) (mE P N T y Q) s:=by rw[mE]
theorem aaH{id:Nat}{c:Code}{Q:Exit->St->Prop}:mE P N T (.block id c) Q s=mE P N T c (wT id Q) s:=by rw[mE]
theorem ad1{id:Nat}{Q:Exit->St->Prop}:mE P N T (.exit id) Q s=CW P N (.exit id) Q s:=by rw[mE]
theorem ag3{Q:Exit->St->Prop}:mE P N T .ret Q s=CW P N .ret Q s:=by rw[mE]
theorem ad2{Q:Exit->St->Prop}:mE P N T .skip Q s=CW P N .skip Q s:=by rw[mE]
theorem ad3{c:Code}{Q:Exit->St->Prop}:mE P N T (.loop c) Q s=CW P N (.loop c) Q s:=by rw[mE]
theorem JO{ι:Type}{c:Code}{Q:Exit->St->Prop}(T:List TypeId)(eH:P.follows .mixedOrders=true)(hok:ou T N c=true)(ts:List Nat)(f:ι->List V)(g:ι->Store)(p:ι->Prop)(μ:ι->Nat)(i0:ι)
 (h1:ts.map (look s.tm)=f i0)(h2:s.st=g i0)(h3:p i0)
 (round:∀i,p i->mE P N T c (jG (Inv N ts f g p μ i) Q) ⟨mX ts (f i),g i⟩):AW P N (.loop c) Q s:=by
 refine MO (ι:=ι) (fun i s=>∃s0,jh N s s0/\ts.map (look s0.tm)=f i/\s0.st=g i/\p i) μ i0 ⟨s,jh.refl _ _,h1,h2,h3⟩ fun i s hI=> ?_;obtain⟨s0,hg,h1,h2,h3⟩:=hI;refine oD ?_ hg
 have hr:=(nX eH c _ _ hok (round i h3)).mono (Q':=jG (fun s'=>∃j,μ j<μ i/\∃s0,jh N s' s0/\ts.map (look s0.tm)=f j/\s0.st=g j/\p j) Q) fun e s' h=>by
  cases e with
  |normal=>
   obtain⟨j,s0,a1,a2,a3,a4,a5⟩:=h;exact⟨j,a1,s0,a2,a3,a4,a5⟩
  |_=>exact h
 obtain⟨tm,st⟩:=s0;simp only at h1 h2;subst h2;rw[<-h1] at hr;exact WH hr fun t=>yc _ ts t
theorem nY(T:List TypeId){f:FuncId}{fn:Func}{c:Code}{args:List V}{post:V->Store->Prop}{rs:List ResultVar}(eH:P.follows .mixedOrders=true)(hf:P.funcs[f]? =some fn)(hN:fn.ntmps=N)
 (hb:fn.body=some c) (hn:(fn.name== "runtime.NumGoroutine")=false) (hr:fn.results.toList=rs) (hl:Nat.ble args.length N=true) (hok:ou T N c=true)
 (h:mE P N T c (JL P rs post) ⟨lu (args.map (V.up 1)) 0,[]::S⟩):bY P f args S post:=by
 subst hN;subst hr;exact uZ hf hb hn (Nat.le_of_ble_eq_true hl) (Gl tZ (nX eH c _ _ hok h))
end
attribute [go_sem ↓] ag2 adY XL adZ aaH ad1 ag3 ad2 ad3 aaE XJ XK Ui
attribute [go_sem] adW ED aaF Od aaG aiJ
end Go.Ab