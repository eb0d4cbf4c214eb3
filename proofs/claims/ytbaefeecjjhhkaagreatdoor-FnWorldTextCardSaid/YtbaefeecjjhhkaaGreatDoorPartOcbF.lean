/-
  SEVERAL TEXTS IN ONE (merged by program): contracts and models, each with its own heading.
-/
import Derived.Test.YtbaefeecjjhhkaaGreatDoorPartOcbE
set_option maxHeartbeats 8000000
open Go.Proofs Go.Proofs.Tryz
set_option linter.unusedSimpArgs false
set_option linter.unusedVariables false
set_option maxRecDepth 4000
set_option maxRecDepth 100000
namespace Go.Ab
def apt(T:List TypeId):Op->Bool
 | .call {callee:=.value _,args:=_,argTypes:=ts}=> !(ts.toList.all fun t=>T.all fun u=> !(t==u))
 |_=>false
def vg(T:List TypeId)(R:Array Oper):Md:=fun op=>match Bd R 0 op with
 |0=>if apt T op then 3 else 0
 |m=>m
def GA:V->Option Key
 | .c (.ptr k _)=>some k
 | .c (.nL k _ _)=>some k
 | .c (.mD k)=>some k
 | .c (.mp k)=>some k
 | .c (.xp k _ _)=>some k
 | .c (.xq k _ _ _ _ _)=>some k
 |_=>none
theorem Sy{v:V}{k:Key}(h:Lg v k):GA v=some k:=by
 rcases h with⟨_,rfl⟩|⟨_,_,rfl⟩|rfl|rfl|⟨_,_,rfl⟩|⟨_,_,_,_,_,rfl⟩<;>rfl
def ab4:Key->Key->Bool
 |(0,a),(0,b)=>a !=b
 |(0,_),(_+1,_)=>true
 |(_+1,_),(0,_)=>true
 |_,_=>false
theorem aip{k k':Key}(h:ab4 k k'=true):k≠k':=by
 rintro rfl;obtain⟨l,j⟩:=k;cases l<;>simp[ab4] at h
def ab5(v w:V):Bool:=match GA v,GA w with
 |some k,some k'=>ab4 k k'
 |_,_=>true
def UH:Op->List Operand
 | .store _ a _=>[a]
 | .call {callee:=.value _,args:=zy,argTypes:=_}=>zy.toList
 |_=>[]
def Lv(R:Array Oper)(i:Nat)(x:Oper)(j:Nat)(y:Oper):Bool:=kJ y.op||(match x.op with
 | .store _ _ _=>true
 | .call {callee:=.value _,args:=_,argTypes:=_}=>true
 |_=>false)&&(UH x.op).all (settled R i)&&y.op.operands.toList.all (settled R j)
def Ka(T:List TypeId)(R:Array Oper)(p i j:Nat)(x y:Oper):Bool:= !(x.apart R y)||(!(decide (j=p))&&((gD (vg T R) x.op&&gD (vg T R) y.op)||(l8 (vg T R) x.op&& !(Lv R i x j y))||(l8 (vg T R) y.op&& !(Lv R j y i x))))
def Eo(T:List TypeId)(R:Array Oper)(N p:Nat):Bool:=JN (vg T R) R p&&
 (List.range R.size).all fun j=>
   (match R[j]? with
    |some o=>o.after.toList.all (fun e=> !Region.binds .any e||decide (e.on<j))&&(match o.dst with|some d=>decide (d<N)|none=>true)
    |none=>true)&&
   (List.range j).all fun i=>
     match R[i]?,R[j]? with
     |some x,some y=>((masks R.toList []).getD j 0).testBit i|| !(Ka T R p i j x y)
     |_,_=>true
def arv(T:List TypeId)(R:Array Oper)(N:Nat):Nat:=if Eo T R N R.size then R.size else((List.range R.size).find? fun p=>MW R p&&Eo T R N p).getD R.size
def aac(T:List TypeId)(R:Array Oper)(N:Nat):Bool:=Eo T R N (arv T R N)
def UJ(E:Md)(R:Array Oper)(tm:List (Nat×V)):Bool:=
 (List.range R.size).all fun i=>match R[i]? with
   |some x=> !(l8 E x.op)||(UH x.op).all fun a=>(List.range R.size).all fun j=>match R[j]? with
     |some y=>uJ R i j||gD E y.op||kJ y.op||abg y.op||y.op.operands.toList.all (fun z=>ab5 (ev tm a) (ev tm z))
     |none=>true
   |none=>true
def Ra(vs:List V)(S S':Store):Prop:=∀k,(∃v∈vs,Lg v k)\/bA S' k=bA S k
def IB(T:List TypeId)(R:Array Oper)(op:Op)(tm:List (Nat×V))(S S':Store):Prop:=match op with
 | .call {callee:=.value x,args:=zy,argTypes:=ts}=>vg T R (.call {callee:=.value x,args:=zy,argTypes:=ts})=3->Ra (Gv tm zy.toList) S S'
 |_=>True
section
variable {P:Program} {N:Nat} {S:Store} {s:St} {tm:List (Nat×V)} {T:List TypeId} {R:Array Oper}
def Bn(P:Program)(T:List TypeId)(R:Array Oper):List Oper->St->(St->Prop)->Prop
 |[],s,K=>K s
 |o::os,s,K=>rC P (vg T R) R o s fun s'=>IB T R o.op s.tm s.st s'.st/\Bn P T R os s' K
theorem ae6{op:Op}(h:2<=vg T R op):vg T R op=3\/(List.range R.size).all (fun i=>match R[i]? with
 |some o=>(BH op !=BH o.op)||QK R i
 |none=>true)=true:=by
 unfold vg at h ⊢;split at h
 ·rename_i e;split at h
  ·rename_i hc;left;rw[if_pos hc]
  ·omega
 ·rename_i m hm;right;unfold Bd at h;split at h
  ·rename_i hq;exact hq
  ·omega
theorem aiq{o:Oper}{i j:Nat}(ho:R[i]? =some o)(hj:j<R.size)(hij:i≠j)(h:(List.range R.size).all (fun i=>match R[i]? with
 |some o'=>(BH o.op !=BH o'.op)||QK R i
 |none=>true)=true):uJ R i j=true:=by
 have hi:i<R.size:=(Array.getElem?_eq_some_iff.1 ho).1;have h1:=List.all_eq_true.1 h i (List.mem_range.2 hi);rw[ho] at h1;simp only[bne_self_eq_false,Bool.false_or] at h1;have h2:=List.all_eq_true.1 h1 j (List.mem_range.2 hj);unfold uJ;have hne:¬j=i:=fun e=>hij e.symm;simp only[hne,decide_false,Bool.false_or] at h2;by_cases e:i<j
 ·rw[if_pos e];rwa [if_neg (by omega)] at h2
 ·rw[if_neg e];rwa [if_pos (by omega)] at h2
theorem ae7{o:Oper}{s s':St}{v:V}(ht:nN P (vg T R) R o s v s')(hf:IB T R o.op s.tm s.st s'.st)(hc:kJ o.op=true)(hm:vg T R o.op=3){k:Key}
 (hk:∀a∈UH o.op,∀k',GA (ev s.tm a)=some k'->k'≠k):bA s'.st k=bA s.st k:=by
 obtain⟨dst,op,ty,pos,after,guard⟩:=o
 cases op with
 |call c=>
  obtain⟨BF,args,ts⟩:=c
  cases BF with
  |value f=>
   rcases hf hm k with⟨v,hv,hr⟩|h
   ·obtain⟨a,ha,rfl⟩:=List.mem_map.1 hv;exact absurd rfl (hk a ha k (Sy hr))
   ·exact h
  |_=>cases hc
 |_=>cases hc
theorem ab6{v w:V}(h:ab5 v w=true){k k':Key}(hv:GA v=some k')(hw:Lg w k):k'≠k:=by
 unfold ab5 at h;rw[hv,Sy hw] at h;exact aip h
theorem alf{st:Nat->St}{vs:Nat->V}{p:Nat}(hok:Eo T R N p=true)
 (hF:∀i,i<R.size->∃o,R[i]? =some o/\nN P (vg T R) R o (st i) (vs i) (st (i+1))/\IB T R o.op (st i).tm (st i).st (st (i+1)).st)(hl:UJ (vg T R) R (st R.size).tm=true):Oj (vg T R) R N st p:=by
 unfold Eo at hok;rw[Bool.and_eq_true] at hok;have Ae:=QM hok.1;obtain⟨hed,h2⟩:=Ij (f:=fun i j x y=>Ka T R p i j x y) hok.2
 have hT:∀i,i<R.size->∃o,R[i]? =some o/\nN P (vg T R) R o (st i) (vs i) (st (i+1)):=fun i hi=>by
  obtain⟨o,a,b,_⟩:=hF i hi;exact⟨o,a,b⟩
 refine⟨?_,?_,?_,?_,Ae⟩
 ·intro i o e ho he hb;have h2:=hed i o ho;simp only[Bool.and_eq_true] at h2;have h3:=List.all_eq_true.1 h2.1 e (by simpa using he);simpa [hb] using h3
 ·intro i o ho d hd;have h2:=hed i o ho;simp only[Bool.and_eq_true,hd] at h2;simpa using h2.2
 ·intro i j x y hij hx hy hc;rcases h2 i j x y hij hx hy with h|h
  ·exact .inl h
  ·unfold Ka at h;unfold oF at hc;rw[Bool.or_eq_false_iff,Bool.not_eq_false'] at h;rw[h.1] at hc;simp only[Bool.not_true,Bool.false_or] at hc;by_cases e:j=p
   ·exact .inr ⟨e,(Bool.and_eq_true _ _▸hc).1,h.1⟩
   ·have h3:=h.2;simp only[e,decide_false,Bool.not_false,Bool.true_and,Bool.or_eq_false_iff] at h3;rw[hc] at h3;cases h3.1.1
 ·intro i j x o hij hx ho hs hD hc
  have hjp:j≠p:=fun e=>by
   subst e;have:=(wB (E:=vg T R) (Ae o ho).1).1;rw[hD] at this;cases this
  have Sc:i≠p:=fun e=>by
   subst e;have:=(wB (E:=vg T R) (Ae x hx).1).2.1;rw[hs] at this;cases this
  cases hb:uJ R i j with
  |true=>exact .inl rfl
  |false=>
   refine .inr ?_;rintro k ⟨hmv,z,hz,hk⟩;have hi:i<R.size:=(Array.getElem?_eq_some_iff.1 hx).1;have hj:j<R.size:=(Array.getElem?_eq_some_iff.1 ho).1
   have hlo:Lv R i x j o=true:=by
    unfold uJ at hb;by_cases e:i<j
    ·rw[if_pos e] at hb;rcases h2 i j x o e hx ho with h|h
     ·rw[hb] at h;cases h
     ·simp only[Ka,hjp,decide_false,Bool.not_false,hs,Bool.true_and,Bool.or_eq_false_iff,Bool.not_eq_false'] at h;exact h.2.1.2
    ·rw[if_neg e] at hb;rcases h2 j i o x (by omega) ho hx with h|h
     ·rw[hb] at h;cases h
     ·simp only[Ka,Sc,decide_false,Bool.not_false,hs,Bool.true_and,Bool.or_eq_false_iff,Bool.not_eq_false'] at h;exact h.2.2
   unfold Lv at hlo;rw[hc,Bool.false_or,Bool.and_eq_true,Bool.and_eq_true] at hlo;obtain⟨⟨hop,hsa⟩,hsy⟩:=hlo
   have hz':z∈o.op.operands.toList:=by simpa using hz
   have hsz:=List.all_eq_true.1 hsy z hz';have h1:=List.all_eq_true.1 hl i (List.mem_range.2 hi);rw[hx] at h1;simp only[hs,Bool.not_true,Bool.false_or] at h1
   have key:∀a∈UH x.op,∀k',GA (ev (st i).tm a)=some k'->k'≠k:=fun a ha k' hk'=>by
    have h3:=List.all_eq_true.1 h1 a ha;have h4:=List.all_eq_true.1 h3 j (List.mem_range.2 hj);rw[ho] at h4;simp only[hb,hD,hc,hmv,Bool.false_or] at h4;have h5:=List.all_eq_true.1 h4 z hz';rw[Dg hT (by omega) (List.all_eq_true.1 hsa a ha),Dg hT (by omega) hsz] at h5;exact ab6 h5 hk' hk
   obtain⟨x',hx',ht,hf⟩:=hF i hi;rw[hx] at hx';cases hx';split at hop
   ·rename_i t a y e;refine Ml e ht fun k' hk'=>key a (by rw[e];exact List.mem_singleton.2 rfl) k' ?_;rcases hk' with⟨_,h⟩|⟨_,_,h⟩|⟨_,_,_,_,_,h⟩<;>rw[h]<;>rfl
   ·rename_i f zy ts e
    have hcv:kJ x.op=true:=by rw[e];rfl
    have h2m:2<=vg T R x.op:=by
     unfold l8 at hs
     have hns:Au x.op=false:=by rw[e];rfl
     rw[hns,Bool.false_or,Bool.and_eq_true,decide_eq_true_eq] at hs;exact hs.1
    rcases ae6 h2m with h3|h3
    ·exact ae7 ht hf hcv h3 key
    ·rw[aiq hx hj hij h3] at hb;cases hb
   ·cases hop
theorem Y3{id:Nat}{Q:Exit->St->Prop}{s:St}(eP:P.follows .mixedOrders=true)(hok:aac T R N=true)(h:Bn P T R R.toList s (fun s'=>UJ (vg T R) R s'.tm=true/\Q .normal s')):AW P N (.region id R true) Q s:=by
 obtain⟨st,vs,h0,hK,hT⟩:=JR (F:=fun o s s'=>IB T R o.op s.tm s.st s'.st) (D:=fun os s=>Bn P T R os s (fun s'=>UJ (vg T R) R s'.tm=true/\Q .normal s')) (fun _ h=>h) (fun o os s h=>by
  obtain⟨v,s',a,b⟩:=Mk h
  exact⟨v,s',a,b⟩) R.size 0 (by omega) s h
 have hT':=fun i hi=>hT i (Nat.zero_le i) hi;refine Ed (vs:=vs) eP h0 hK.2 (fun i hi=> ?_) (alf hok hT' hK.1);obtain⟨o,a,b,_⟩:=hT' i hi;exact⟨o,a,b⟩
def O0(E:Md)(R:Array Oper)(K:St->Prop)(s:St):Prop:=UJ E R s.tm=true/\K s
@[congr] theorem am8 {E:Md} {R:Array Oper} {K:St->Prop} {s s':St} (h2:s=s'):O0 E R K s=O0 E R K s':=by rw[h2]
def GD(P:Program)(T:List TypeId)(R:Array Oper)(os:List Oper)(K:St->Prop)(s:St):Prop:=Bn P T R os s K
def O1(P:Program)(T:List TypeId)(R:Array Oper)(op:Op)(tm:List (Nat×V))(S:Store)(os:List Oper)(K:St->Prop)(s':St):Prop:=IB T R op tm S s'.st/\GD P T R os K s'
@[congr] theorem aos {os:List Oper} {s s':St} {K:St->Prop} (h2:s=s'):Bn P T R os s K=Bn P T R os s' K:=by rw[h2]
@[congr] theorem am9 {os:List Oper} {s s':St} {K:St->Prop} (h2:s=s'):GD P T R os K s=GD P T R os K s':=by rw[h2]
@[congr] theorem aot {op:Op} {os:List Oper} {s s':St} {K:St->Prop} (h2:s=s'):O1 P T R op tm S os K s=O1 P T R op tm S os K s':=by rw[h2]
theorem ae8{K:St->Prop}:Bn P T R [] ⟨tm,S⟩ K=K ⟨tm,S⟩:=rfl
theorem ab7{o:Oper}{os:List Oper}{K:St->Prop}:Bn P T R (o::os) ⟨tm,S⟩ K=rC P (vg T R) R o ⟨tm,S⟩ (O1 P T R o.op tm S os K):=rfl
theorem ab8{K:St->Prop}:GD P T R [] K ⟨tm,S⟩=K ⟨tm,S⟩:=rfl
theorem Y4{o:Oper}{os:List Oper}{K:St->Prop}:GD P T R (o::os) K ⟨tm,S⟩=rC P (vg T R) R o ⟨tm,S⟩ (O1 P T R o.op tm S os K):=rfl
theorem air{op:Op}{os:List Oper}{K:St->Prop}{tm':List (Nat×V)}{S':Store}:O1 P T R op tm S os K ⟨tm',S'⟩=(IB T R op tm S S'/\GD P T R os K ⟨tm',S'⟩):=rfl
theorem ae9{vs:List V}:Ra vs S S=True:=by simp[Ra]
theorem ais{vs:List V}{k:Key}{off:Nat}{x:Obj}:Ra (.c (.ptr k off)::vs) S (bJ S k x)=True:=by
 refine eq_true fun k'=> ?_;by_cases e:k=k'
 ·subst e;exact .inl ⟨_,List.mem_cons_self,.inl ⟨_,rfl⟩⟩
 ·exact .inr (fI _ _ _ _ e)
theorem Sz{vs:List V}{l j off:Nat}{fr:List Obj}{x:Obj}:Ra (.c (.ptr (1+l,j) off)::vs) (fr::S) (fr::bJ S (l,j) x)=True:=by
 have:=ais (S:=fr::S) (vs:=vs) (k:=(1+l,j)) (off:=off) (x:=x)
 rwa [dn] at this
theorem afa{vs:List V}{l j off:Nat}{fr:List Obj}{x y:Obj}:Ra (.c (.ptr (1+l,j) off)::vs) (fr::bJ S (l,j) x) (fr::bJ S (l,j) y)=True:=by
 have:=Sz (S:=bJ S (l,j) x) (vs:=vs) (l:=l) (j:=j) (off:=off) (fr:=fr) (x:=y)
 rwa [bQ] at this
theorem ana{p:Prop}:(p->True)=True:=by simp
def qJ(P:Program)(N:Nat)(T:List TypeId):Code->(Exit->St->Prop)->St->Prop
 | .seq x y,Q,s=>qJ P N T x (lG (qJ P N T y Q) Q) s
 | .region _ R true,Q,s=>Bn P T R R.toList s (O0 (vg T R) R (Q .normal))
 | .region id R false,Q,s=>CW P N (.region id R false) Q s
 | .cond c x y,Q,s=>zH (ev s.tm c) (qJ P N T x Q) (qJ P N T y Q) s
 | .block id c,Q,s=>qJ P N T c (zB id Q) s
 | .exit id,Q,s=>CW P N (.exit id) Q s
 | .ret,Q,s=>CW P N .ret Q s
 | .skip,Q,s=>CW P N .skip Q s
 | .loop c,Q,s=>CW P N (.loop c) Q s
 |_,_,_=>False
def vK(T:List TypeId)(N:Nat):Code->Bool
 | .seq x y=>vK T N x&&vK T N y
 | .region _ R true=>aac T R N
 | .cond _ x y=>vK T N x&&vK T N y
 | .block _ c=>vK T N c
 | .loop _=>true
 |c=>codeOk N c
theorem wH(eP:P.follows .mixedOrders=true):∀(c:Code)(Q:Exit->St->Prop)(s:St),vK T N c=true->qJ P N T c Q s->AW P N c Q s
 | .seq x y,Q,s,ok,h=>by
   simp only[vK,Bool.and_eq_true] at ok;refine JM (AW.mono (wH eP x _ s ok.1 h) fun e s' h'=> ?_)
   cases e with
   |normal=>exact wH eP y Q s' ok.2 h'
   |_=>exact h'
 | .region _ R true,Q,s,ok,h=>Y3 eP ok h
 | .region id R false,Q,s,ok,h=>iB eP _ Q s ok h
 | .cond c x y,Q,s,ok,h=>by
   simp only[vK,Bool.and_eq_true] at ok;simp only[qJ,zH] at h;split at h
   ·rename_i b hb;exact Ld hb (fun e=>wH eP x Q s ok.1 (h.1 e)) (fun e=>wH eP y Q s ok.2 (h.2 e))
   ·exact h.elim
 | .block id c,Q,s,ok,h=>H8 (wH eP c _ s ok h)
 | .exit id,Q,s,ok,h=>iB eP _ Q s ok h
 | .ret,Q,s,ok,h=>iB eP _ Q s ok h
 | .skip,Q,s,ok,h=>iB eP _ Q s ok h
 | .loop c,Q,s,ok,h=>by
   rw[qJ,QX] at h;exact h
 | .rangeFunc _ _ _ _,Q,s,ok,h=>h.elim
 | .scope _,Q,s,ok,h=>h.elim
 | .label _,Q,s,ok,h=>h.elim
 | .goto _,Q,s,ok,h=>h.elim
 | .refuse _,Q,s,ok,h=>h.elim
theorem alg{x y:Code}{Q:Exit->St->Prop}:qJ P N T (.seq x y) Q s=qJ P N T x (lG (qJ P N T y Q) Q) s:=by rw[qJ]
theorem ait{id:Nat}{l:List Oper}{Q:Exit->St->Prop}:qJ P N T (.region id ⟨l⟩ true) Q s=Bn P T ⟨l⟩ l s (O0 (vg T ⟨l⟩) ⟨l⟩ (Q .normal)):=by rw[qJ]
theorem ab9{id:Nat}{l:List Oper}{Q:Exit->St->Prop}:qJ P N T (.region id ⟨l⟩ false) Q s=CW P N (.region id ⟨l⟩ false) Q s:=by rw[qJ]
theorem aiu{c:Operand}{x y:Code}{Q:Exit->St->Prop}:qJ P N T (.cond c x y) Q s=zH (ev s.tm c) (qJ P N T x Q) (qJ P N T y Q) s:=by rw[qJ]
theorem afb{id:Nat}{c:Code}{Q:Exit->St->Prop}:qJ P N T (.block id c) Q s=qJ P N T c (zB id Q) s:=by rw[qJ]
theorem aiv{id:Nat}{Q:Exit->St->Prop}:qJ P N T (.exit id) Q s=CW P N (.exit id) Q s:=by rw[qJ]
theorem alh{Q:Exit->St->Prop}:qJ P N T .ret Q s=CW P N .ret Q s:=by rw[qJ]
theorem aiw{Q:Exit->St->Prop}:qJ P N T .skip Q s=CW P N .skip Q s:=by rw[qJ]
theorem aix{c:Code}{Q:Exit->St->Prop}:qJ P N T (.loop c) Q s=CW P N (.loop c) Q s:=by rw[qJ]
theorem Wq{ι:Type}{c:Code}{Q:Exit->St->Prop}(T:List TypeId)(eP:P.follows .mixedOrders=true)(hok:vK T N c=true)(ts:List Nat)(f:ι->List V)(g:ι->Store)(p:ι->Prop)(μ:ι->Nat)(i0:ι)
 (h1:ts.map (look s.tm)=f i0)(h2:s.st=g i0)(h3:p i0)
 (round:∀i,p i->qJ P N T c (lG (Inv N ts f g p μ i) Q) ⟨gV ts (f i),g i⟩):AW P N (.loop c) Q s:=by
 refine QI (ι:=ι) (fun i s=>∃s0,gU N s s0/\ts.map (look s0.tm)=f i/\s0.st=g i/\p i) μ i0 ⟨s,gU.refl _ _,h1,h2,h3⟩ fun i s hI=> ?_;obtain⟨s0,hg,h1,h2,h3⟩:=hI;refine ni ?_ hg
 have hr:=(wH eP c _ _ hok (round i h3)).mono (Q':=lG (fun s'=>∃j,μ j<μ i/\∃s0,gU N s' s0/\ts.map (look s0.tm)=f j/\s0.st=g j/\p j) Q) fun e s' h=>by
  cases e with
  |normal=>
   obtain⟨j,s0,a1,a2,a3,a4,a5⟩:=h;exact⟨j,a1,s0,a2,a3,a4,a5⟩
  |_=>exact h
 obtain⟨tm,st⟩:=s0;simp only at h1 h2;subst h2;rw[<-h1] at hr;exact abl hr fun t=>yu _ ts t
theorem BP(T:List TypeId){f:FuncId}{fn:Func}{c:Code}{args:List V}{post:V->Store->Prop}{rs:List ResultVar}(eP:P.follows .mixedOrders=true)(hf:P.funcs[f]? =some fn)(hN:fn.ntmps=N)
 (hb:fn.body=some c) (hn:(fn.name== "runtime.NumGoroutine")=false) (hr:fn.results.toList=rs) (hl:Nat.ble args.length N=true) (hok:vK T N c=true)
 (h:qJ P N T c (QY P rs post) ⟨pz (args.map (V.up 1)) 0,[]::S⟩):dw P f args S post:=by
 subst hN;subst hr;exact qW hf hb hn (Nat.le_of_ble_eq_true hl) (wD zG (wH eP c _ _ hok h))
end
attribute [go_sem ↓] alg ait ab9 aiu afb aiv alh aiw aix ae8 ab7 ab8 Y4
attribute [go_sem] air IB ae9 Sz afa ana
def Ep(x:Int):List D:=[.i .u8 x]
theorem Ws(a:Int):0<=FN .i64 a 255/\FN .i64 a 255<=255:=by
 have h:(BitVec.ofInt IntKind.i64.bits a &&& BitVec.ofInt IntKind.i64.bits 255).toNat<=255:=by
  rw[BitVec.toNat_and];refine Nat.le_trans Nat.and_le_right ?_;decide
 unfold FN;rw[IntWalk.i64_in _ (by omega)];omega
structure Bytes(bs:List Int):Prop where
 len:bs.length<=1048576
 rng:∀x∈bs,0<=x/\x<=255
structure Cu(bs:List Int) where
 i:Int
 h:Int
 lo:0<=i
 hi:i<=bs.length
def cur{bs:List Int}(c:Cu bs):List C:=[.d (.sl (bs.map Ep)),.d (.i .i64 c.i),.d (.i .i64 c.h)]
def hN(h:Int):Int:=IntKind.i64.wrap (IntKind.i64.wrap (h*6364136223846793005)+1442695040888963407)
def Lx(h:Int):Int:=FN .i64 (U0 .i64 (MR .i64 (hN h) 33) (MR .i64 (hN h) 45)) 255
def iw{bs:List Int}(c:Cu bs):Int×Cu bs:=
 if h:c.i<bs.length then(FN .i64 (Lx c.h+bs.getD c.i.toNat 0) 255,⟨c.i+1,hN c.h,by have:=c.lo;omega,by omega⟩) else(Lx c.h,⟨c.i,hN c.h,c.lo,c.hi⟩)
theorem qX{bs:List Int}(c:Cu bs):0<=(iw c).1/\(iw c).1<=255:=by
 unfold iw;split
 ·exact Ws _
 ·exact Ws _
def jy{bs:List Int}(n:Int)(c:Cu bs):Int×Cu bs:=((iw c).1.tmod n,(iw c).2)
theorem zK{bs:List Int}{n:Int}(c:Cu bs)(h:1<=n):0<=(jy n c).1/\(jy n c).1<n:=
 ⟨Int.tmod_nonneg _ (qX c).1,Int.tmod_lt_of_pos _ (by omega)⟩
def gK{bs:List Int}(n:Int)(c:Cu bs):Bool×Cu bs:=(decide ((jy n c).1=0),(jy n c).2)
def sH{bs:List Int}(xs:List (List UInt8))(c:Cu bs):List UInt8×Cu bs:=(xs.getD (jy xs.length c).1.toNat [],(jy xs.length c).2)
theorem BQ{bs:List Int}{xs:List (List UInt8)}(c:Cu bs)(h:1<=xs.length):(sH xs c).1∈xs:=by
 have:=zK (n:=xs.length) c (by omega);unfold sH
 have hi:(jy (xs.length:Int) c).1.toNat<xs.length:=by omega
 simp only[List.getD,List.getElem?_eq_getElem hi,Option.getD_some];exact List.getElem_mem hi
theorem BR{bs:List Int}(hB:Bytes bs)(c:Cu bs)(l j:Nat)(S:Store)(hk:bA S (l,j)=some (.box (cur c))):
 dw prog 46 [.c (.ptr (l,j) 0)] S (fun r S'=>r=.c (.d (.i .i64 (iw c).1))/\S'=bJ S (l,j) (.box (cur (iw c).2))):=by
 have h0:0<=Lx c.h/\Lx c.h<=255:=Ws _;have hl:=hB.len;have g:∀x:Ab.Obj,bA (bJ S (l,j) x) (l,j)=some x:=fun x=>eO _ _ _ _ hk;obtain⟨i,h,lo,hi⟩:=c;simp only at h0;by_cases hlt:i<bs.length
 ·have hb:=hB.rng (bs[i.toNat]'(by omega)) (List.getElem_mem _);have h1:decide (i<(bs.length:Int))=true:=decide_eq_true hlt
  have e:bs.getD i.toNat 0=bs[i.toNat]'(by omega):=by simp[List.getD,(show i.toNat<bs.length by omega)]
  rw[iw,dif_pos hlt];simp only[e]
  unfold Lx hN at *
  refine zcx [.tmp 2] func46 ntmps46 ?_;simp -implicitDefEqProofs (disch:=omega) only[go_sem,hk,cur,g,bQ,h1,Ep];refine W3 ?_
  all_goals first|exact⟨rfl,rfl⟩|rfl|omega
 ·have h1:decide (i<(bs.length:Int))=false:=decide_eq_false hlt;rw[iw,dif_neg hlt]
  unfold Lx hN at *
  refine zcx [.tmp 2] func46 ntmps46 ?_;simp -implicitDefEqProofs (disch:=omega) only[go_sem,hk,cur,g,bQ,h1,Ep]
  first|done|exact⟨rfl,rfl⟩|rfl
theorem zL{bs:List Int}(hB:Bytes bs)(c:Cu bs)(l j:Nat)(S:Store)(n:Int)(hk:bA S (l,j)=some (.box (cur c)))(h1:1<=n)(h2:n<=256):
 dw prog 24 [.c (.ptr (l,j) 0),.c (.d (.i .i64 n))] S (fun r S'=>r=.c (.d (.i .i64 (jy n c).1))/\S'=bJ S (l,j) (.box (cur (jy n c).2))):=by
 have hx:=qX c;have d1:decide (n<=0)=false:=decide_eq_false (by omega);have d2:decide (n<=256)=true:=decide_eq_true h2;refine zcx [.tmp 4] func24 ntmps24 ?_;simp -implicitDefEqProofs (disch:=omega) only[go_sem,d1,d2];refine cK rfl (BR hB c (1+l) j ([]::S) (by rw[cu];exact hk)) ?_;simp -implicitDefEqProofs (disch:=omega) only[go_sem,dn];refine W3 ?_
 first|done|exact⟨rfl,rfl⟩|rfl
theorem yT{bs:List Int}(hB:Bytes bs)(c:Cu bs)(l j:Nat)(S:Store)(n:Int)(hk:bA S (l,j)=some (.box (cur c)))(h1:1<=n)(h2:n<=256):
 dw prog 11 [.c (.ptr (l,j) 0),.c (.d (.i .i64 n))] S (fun r S'=>r=.c (.d (.b (gK n c).1))/\S'=bJ S (l,j) (.box (cur (gK n c).2))):=by
 refine zcx [.tmp 4] func11 ntmps11 ?_;refine W1 ?_;refine cK rfl (zL hB c (1+l) j ([]::S) n (by rw[cu];exact hk) h1 h2) ?_;simp -implicitDefEqProofs (disch:=omega) only[go_sem,dn]
 first|done|exact⟨rfl,rfl⟩|rfl
theorem SA{bs:List Int}(hB:Bytes bs)(c:Cu bs)(l j:Nat)(S:Store)(xs:List (List UInt8))(hk:bA S (l,j)=some (.box (cur c)))(h1:1<=xs.length)(h2:xs.length<=256):
 dw prog 25 [.c (.ptr (l,j) 0),.c (.d (.sl (xs.map encS)))] S (fun r S'=>r=.c (.d (.s (sH xs c).1))/\S'=bJ S (l,j) (.box (cur (sH xs c).2))):=by
 have hx:=zK (n:=xs.length) c (by omega);refine zcx [.tmp 4] func25 ntmps25 ?_;simp -implicitDefEqProofs (disch:=omega) only[go_sem,encS];refine cK rfl (zL hB c (1+l) j ([]::S) xs.length (by rw[cu];exact hk) (by omega) (by omega)) ?_
 have hi:(jy (xs.length:Int) c).1.toNat<xs.length:=by omega
 have e:(sH xs c).1=xs[(jy (xs.length:Int) c).1.toNat]:=by simp only[sH,List.getD,List.getElem?_eq_getElem hi,Option.getD_some]
 simp -implicitDefEqProofs (disch:=omega) only[go_sem,encS,dn];refine W3 ?_;rw[e]
 first|done|exact⟨rfl,rfl⟩|rfl
def apu(h b:Int):Int:=FN .i64 (IntKind.i64.wrap (IntKind.i64.wrap (IntKind.i64.wrap (h*131)+b)+7)) 1073741823
def LA:List Int->Int->Int
 |[],h=>h
 |b::r,h=>LA r (apu h b)
def Cr(bs:List Int):Cu bs:=⟨0,LA (bs.take 4000) (28803+bs.length),Int.le_refl _,by omega⟩
theorem acd{es:List (List D)}(h:∀y∈es,∃x,y=[.i .u8 x]/\(Lit.int .u8 x).wf=true):∃xs:List Int,es=xs.map Ep/\∀x∈xs,0<=x/\x<=255:=by
 induction es with
 |nil=>exact⟨[],rfl,fun x h=>by cases h⟩
 |cons y es ih=>
  obtain⟨x,rfl,hx⟩:=h y List.mem_cons_self;obtain⟨xs,rfl,hxs⟩:=ih fun z hz=>h z (List.mem_cons_of_mem _ hz);refine⟨x::xs,rfl,fun z hz=> ?_⟩;rcases List.mem_cons.1 hz with rfl|hz
  ·have h1:IntKind.u8.min=0:=by decide
   have h2:IntKind.u8.max=255:=by decide
   simp only[Lit.wf,Bool.and_eq_true,decide_eq_true_eq,h1,h2] at hx;exact hx
  ·exact hxs z hz
theorem aiy{bs:List Int}(hB:Bytes bs)(bP:List Ab.Obj)(Ω:Store):dw prog 10 [.c (.d (.sl (bs.map Ep)))] (bP::Ω) (fun r S'=>r=.c (.ptr (0,bP.length) 0)/\S'=(bP++[.box (cur (Cr bs))])::Ω):=by
 have hl:=hB.len;refine J9 (rs:=[.tmp 2]) zmx func10 ntmps10 rfl rfl rfl rfl rfl ?_;refine W1 ?_
 refine aR (ι:=Nat×Int) zmx rfl [0,3,4] (fun y=>[.c (.d (.sl (bs.map Ep))),.c (.d (.i .i64 y.2)),.c (.d (.i .i64 y.1))]) (fun _=>[]::bP::Ω)
  (fun y=>y.1<=bs.length/\y.1<=4000/\LA ((bs.take 4000).drop y.1) y.2=LA (bs.take 4000) (28803+bs.length)) (fun y=>bs.length-y.1) (0,28803+bs.length) rfl rfl ⟨Nat.zero_le _,Nat.zero_le _,by rw[List.drop_zero]⟩ ?_
 rintro⟨i,q⟩ ⟨p1,p2,p3⟩;simp only at p1 p2 p3;refine W1 ?_
 have fin:(¬i<bs.length\/¬i<4000)->(bP++[Ab.Obj.box [.d (.sl (bs.map Ep)),.d (.i .i64 0),.d (.i .i64 q)]])::Ω=(bP++[.box (cur (Cr bs))])::Ω:=fun hq=>by
  rw[List.drop_eq_nil_of_le (by rw[List.length_take];omega)] at p3;rw[show q=LA (bs.take 4000) (28803+bs.length) from p3];rfl
 refine S0 (fun hb h=>?_) fun hb h=>?_
 ·refine S0 (fun hb h=>?_) fun hb h=>?_
  ·have hi:i<bs.length:=by omega
   have hb:=hB.rng bs[i] (List.getElem_mem hi)
   have ht:(bs.take 4000).drop i=bs[i]::(bs.take 4000).drop (i+1):=by
    rw[List.drop_eq_getElem_cons (by rw[List.length_take];omega),List.getElem_take]
   rw[ht,LA] at p3;simp -implicitDefEqProofs (disch:=omega) only[go_sem,Ep];refine W3 ?_
   all_goals try omega
   exact bV (i+1,_) (by simp only;omega) rfl rfl ⟨by simp only;omega,by simp only;omega,p3⟩
  ·exact fin (.inr (by omega))
 ·exact fin (.inl (by omega))
theorem anb(bs:List Int):aC prog 4 [.c (.d (.sl (bs.map Ep)))] (.c (.d (.b (decide (1048576<(bs.length:Int)))))):=fun S=>by
 refine zcx [.tmp 2] func4 ntmps4 ?_;exact Z1
def aj3{bs:List Int}(n:Int)(c:Cu bs):Int×Cu bs:=
 (((iw c).1*16777216+(iw (iw c).2).1*65536+(iw (iw (iw c).2).2).1*256+(iw (iw (iw (iw c).2).2).2).1).tmod n,(iw (iw (iw (iw c).2).2).2).2)
def oH{bs:List Int}(n:Int)(c:Cu bs):Int×Cu bs:=if n<=256 then jy n c else aj3 n c
theorem ace{bs:List Int}{n:Int}(c:Cu bs)(h:1<=n):0<=(oH n c).1/\(oH n c).1<n:=by
 unfold oH;split
 ·exact zK c h
 ·have h1:=qX c;have h2:=qX (iw c).2;have h3:=qX (iw (iw c).2).2;have h4:=qX (iw (iw (iw c).2).2).2;exact⟨Int.tmod_nonneg _ (by omega),Int.tmod_lt_of_pos _ (by omega)⟩
def LB{bs:List Int}(s:List UInt8)(xs:List (List UInt8))(c:Cu bs):List UInt8×Cu bs:=
 if(jy 6 (oH (s.length+1) c).2).1=0 then
  (s.take (oH (s.length+1) c).1.toNat++(sH xs (jy 6 (oH (s.length+1) c).2).2).1++s.drop (oH (s.length+1) c).1.toNat,(sH xs (jy 6 (oH (s.length+1) c).2).2).2)
 else if(jy 6 (oH (s.length+1) c).2).1=1 then(s.take (oH (s.length+1) c).1.toNat,(jy 6 (oH (s.length+1) c).2).2)
 else(s,(jy 6 (oH (s.length+1) c).2).2)
theorem Y5{bs:List Int}(hB:Bytes bs)(c:Cu bs)(l j:Nat)(S:Store)(n:Int)(hk:bA S (l,j)=some (.box (cur c)))(h1:1<=n)(h2:n<=1048577):
 dw prog 24 [.c (.ptr (l,j) 0),.c (.d (.i .i64 n))] S (fun r S'=>r=.c (.d (.i .i64 (oH n c).1))/\S'=bJ S (l,j) (.box (cur (oH n c).2))):=by
 unfold oH;by_cases hn:n<=256
 ·rw[if_pos hn];exact zL hB c l j S n hk h1 hn
 rw[if_neg hn];unfold aj3;have g:∀x:Ab.Obj,bA (bJ S (l,j) x) (l,j)=some x:=fun x=>eO _ _ _ _ hk;have r1:=qX c;have r2:=qX (iw c).2;have r3:=qX (iw (iw c).2).2;have r4:=qX (iw (iw (iw c).2).2).2
 generalize hx1:(iw c).1=x1 at *
 generalize hc1:(iw c).2=c1 at *
 generalize hx2:(iw c1).1=x2 at *
 generalize hc2:(iw c1).2=c2 at *
 generalize hx3:(iw c2).1=x3 at *
 generalize hc3:(iw c2).2=c3 at *
 generalize hx4:(iw c3).1=x4 at *
 generalize hc4:(iw c3).2=c4 at *
 have d1:decide (n<=0)=false:=decide_eq_false (by omega);have d2:decide (n<=256)=false:=decide_eq_false hn;have q1:=BR hB c (1+l) j ([]::S) (by rw[cu];exact hk);rw[hx1,hc1,dn] at q1;have q2:=BR hB c1 (1+l) j ([]::bJ S (l,j) (.box (cur c1))) (by rw[cu];exact g _);rw[hx2,hc2,dn,bQ] at q2;have q3:=BR hB c2 (1+l) j ([]::bJ S (l,j) (.box (cur c2))) (by rw[cu];exact g _);rw[hx3,hc3,dn,bQ] at q3;have q4:=BR hB c3 (1+l) j ([]::bJ S (l,j) (.box (cur c3))) (by rw[cu];exact g _);rw[hx4,hc4,dn,bQ] at q4;refine zcx [.tmp 4] func24 ntmps24 ?_;simp -implicitDefEqProofs (disch:=omega) only[go_sem,d1,d2];refine cK rfl q1 ?_;refine W1 ?_;refine cK rfl q2 ?_;refine W1 ?_;refine cK rfl q3 ?_;refine W1 ?_;refine cK rfl q4 ?_;refine W1 ?_;refine W3 ?_
 first|omega|exact⟨rfl,rfl⟩|rfl
theorem Y6{bs:List Int}(hB:Bytes bs)(c:Cu bs)(l j:Nat)(S:Store)(s:List UInt8)(xs:List (List UInt8))(hk:bA S (l,j)=some (.box (cur c)))(hs:s.length<=1048576)(h1:1<=xs.length)(h2:xs.length<=256)(h3:∀x∈xs,x.length<=100):
 dw prog 12 [.c (.ptr (l,j) 0),.c (.d (.s s)),.c (.d (.sl (xs.map encS)))] S (fun r S'=>r=.c (.d (.s (LB s xs c).1))/\S'=bJ S (l,j) (.box (cur (LB s xs c).2))):=by
 have g:∀x:Ab.Obj,bA (bJ S (l,j) x) (l,j)=some x:=fun x=>eO _ _ _ _ hk;unfold LB;have ra:=ace (n:=s.length+1) c (by omega)
 generalize ha:(oH (s.length+1) c).1=a at *
 generalize hc1:(oH (s.length+1) c).2=c1 at *
 have r2:=zK (n:=6) c1 (by omega)
 generalize hkd:(jy 6 c1).1=k at *
 generalize hc2:(jy 6 c1).2=c2 at *
 obtain⟨m,rfl⟩:∃m:Nat,a=m:=⟨a.toNat,by omega⟩;have q1:=Y5 hB c (1+l) j ([]::S) (s.length+1) (by rw[cu];exact hk) (by omega) (by omega);rw[ha,hc1,dn] at q1;have q2:=zL hB c1 (1+l) j ([]::bJ S (l,j) (.box (cur c1))) 6 (by rw[cu];exact g _) (by omega) (by omega);rw[hkd,hc2,dn,bQ] at q2;have q3:=SA hB c2 (1+l) j ([]::bJ S (l,j) (.box (cur c2))) xs (by rw[cu];exact g _) h1 h2;rw[dn,bQ] at q3;obtain⟨Q,hQ⟩:∃Q,Q=(if k=0 then(s.take (m:Int).toNat++(sH xs c2).1++s.drop (m:Int).toNat,(sH xs c2).2) else if k=1 then(s.take (m:Int).toNat,c2) else(s,c2)):=⟨_,rfl⟩;rw[<-hQ];simp only[Int.toNat_natCast] at hQ;refine BP [31] (rs:=[.tmp 6]) zmx func12 ntmps12 rfl rfl rfl rfl rfl ?_;refine W1 ?_;refine cK rfl q1 ?_;refine W1 ?_;refine cK rfl q2 ?_;refine W1 ?_;refine S0 (fun hb h=>?_) fun hb h=>?_
 ·rw[if_pos h] at hQ;subst hQ;refine W1 ?_;have hp:=h3 _ (BQ c2 h1);refine cK rfl q3 ?_;simp -implicitDefEqProofs (disch:=omega) only[go_sem,List.length_append,List.length_take,List.length_drop,List.take_length];refine⟨by omega,by omega,by omega,by cases l<;>rfl,?_⟩;simp -implicitDefEqProofs (disch:=omega) only[go_sem,List.take_length]
 ·rw[if_neg h] at hQ;refine S0 (fun hb h=>?_) fun hb h=>?_
  ·rw[if_pos h] at hQ;subst hQ;exact Z1
  ·rw[if_neg h] at hQ;subst hQ;exact Z1
def oC0:List UInt8:=[40,112,97,99,107,97,103,101,32,99,111,114,101,32,40,41,32,40,116,114,97,105,116,32,115,104,111,119,32,40,41,32,40,41,32,40,109,32,40,41,32,105,110,116,41,32,40,116,119,111,32,40,39,115,101,108,102,41,32,105,110,116,32,40,120,32,121,41,32,40,43,32,40,109,101,116,104,111,100,32,115,104,111,119,32,109,32,120,41,32,40,109,101,116,104,111,100,32,115,104,111,119,32,109,32,121,41,41,41,41]
def oC1:List UInt8:=[32,40,116,114,97,105,116,32,101,113,32,40,41,32,40,41,32,40,115,97,109,101,32,40,39,115,101,108,102,41,32,98,111,111,108,41,41,32,40,116,114,97,105,116,32,111,114,100,32,40,101,113,41,32,40,41,32,40,108,101,115,115,32,40,39,115,101,108,102,41,32,98,111,111,108,41,41,32,40,116,114,97,105,116,32,97,100,100,32,40,41,32,40,97,115,115,111,99,41,32,40,112,108,117,115,32,40,39,115,101,108,102,41,32,40,97,115,115,111,99,32,97,100,100,32,39,115,101,108,102,41,41,41,32,40,116,114,97,105,116,32,115,101,110,100,32,40,41,32,40,97,117,116,111,41,41]
def oC2:List UInt8:=[32,40,100,97,116,97,32,108,105,115,116,32,40,97,41,32,40,110,105,108,41,32,40,99,111,110,115,32,39,97,32,40,108,105,115,116,32,39,97,41,41,41,32,40,100,97,116,97,32,112,97,105,114,32,40,97,32,98,41,32,40,112,97,105,114,32,39,97,32,39,98,41,41,32,40,100,97,116,97,32,98,111,120,32,40,97,41,32,40,98,111,120,32,39,97,41,41,32,40,100,97,116,97,32,117,110,105,116,32,40,41,32,40,117,110,105,116,41,41]
def oC3:List UInt8:=[32,40,105,110,115,116,32,115,104,111,119,32,40,41,32,105,110,116,32,40,41,32,40,41,32,40,41,32,40,109,32,40,120,41,32,120,41,41,32,40,105,110,115,116,32,115,104,111,119,32,40,41,32,98,111,111,108,32,40,41,32,40,41,32,40,41,32,40,109,32,40,120,41,32,40,105,102,32,120,32,49,32,48,41,41,41]
def oC4:List UInt8:=[32,40,105,110,115,116,32,115,104,111,119,32,40,97,41,32,40,108,105,115,116,32,39,97,41,32,40,40,115,104,111,119,32,39,97,41,41,32,40,41,32,40,41,32,40,109,32,40,120,41,32,40,99,97,115,101,32,120,32,40,110,105,108,32,48,41,32,40,99,111,110,115,32,104,32,116,32,40,43,32,40,109,101,116,104,111,100,32,115,104,111,119,32,109,32,104,41,32,40,109,101,116,104,111,100,32,115,104,111,119,32,109,32,116,41,41,41,41,41,41]
def oC5:List UInt8:=[32,40,105,110,115,116,32,115,104,111,119,32,40,97,41,32,40,108,105,115,116,32,39,97,41,32,40,41,32,40,100,101,102,97,117,108,116,41,32,40,41,32,40,109,32,40,120,41,32,55,41,41,32,40,105,110,115,116,32,115,104,111,119,32,40,41,32,40,108,105,115,116,32,105,110,116,41,32,40,41,32,40,41,32,40,41,32,40,109,32,40,120,41,32,40,99,97,115,101,32,120,32,40,110,105,108,32,48,41,32,40,99,111,110,115,32,104,32,116,32,40,43,32,104,32,40,109,101,116,104,111,100,32,115,104,111,119,32,109,32,116,41,41,41,41,41,41]
def oC6:List UInt8:=[32,40,105,110,115,116,32,115,104,111,119,32,40,97,32,98,41,32,40,112,97,105,114,32,39,97,32,39,98,41,32,40,40,115,104,111,119,32,39,97,41,32,40,115,104,111,119,32,39,98,41,41,32,40,41,32,40,41,32,40,109,32,40,120,41,32,40,99,97,115,101,32,120,32,40,112,97,105,114,32,121,32,122,32,40,45,32,40,109,101,116,104,111,100,32,115,104,111,119,32,109,32,121,41,32,40,109,101,116,104,111,100,32,115,104,111,119,32,109,32,122,41,41,41,41,41,41]
def oC7:List UInt8:=[32,40,105,110,115,116,32,101,113,32,40,41,32,105,110,116,32,40,41,32,40,41,32,40,41,32,40,115,97,109,101,32,40,120,32,121,41,32,40,61,32,120,32,121,41,41,41,32,40,105,110,115,116,32,111,114,100,32,40,41,32,105,110,116,32,40,41,32,40,41,32,40,41,32,40,108,101,115,115,32,40,120,32,121,41,32,40,60,32,120,32,121,41,41,41]
def oC8:List UInt8:=[32,40,105,110,115,116,32,101,113,32,40,97,41,32,40,98,111,120,32,39,97,41,32,40,40,101,113,32,39,97,41,41,32,40,41,32,40,41,32,40,115,97,109,101,32,40,120,32,121,41,32,40,99,97,115,101,32,120,32,40,98,111,120,32,112,32,40,99,97,115,101,32,121,32,40,98,111,120,32,113,32,40,109,101,116,104,111,100,32,101,113,32,115,97,109,101,32,112,32,113,41,41,41,41,41,41,41]
def oC9:List UInt8:=[32,40,105,110,115,116,32,97,100,100,32,40,41,32,105,110,116,32,40,41,32,40,41,32,40,105,110,116,41,32,40,112,108,117,115,32,40,120,32,121,41,32,40,43,32,120,32,121,41,41,41]
def arw:List UInt8:=[32,40,105,110,115,116,32,97,100,100,32,40,97,41,32,40,98,111,120,32,39,97,41,32,40,40,97,100,100,32,39,97,41,41,32,40,41,32,40,40,98,111,120,32,40,97,115,115,111,99,32,97,100,100,32,39,97,41,41,41,32,40,112,108,117,115,32,40,120,32,121,41,32,40,99,97,115,101,32,120,32,40,98,111,120,32,112,32,40,99,97,115,101,32,121,32,40,98,111,120,32,113,32,40,110,101,119,32,98,111,120,32,40,109,101,116,104,111,100,32,97,100,100,32,112,108,117,115,32,112,32,113,41,41,41,41,41,41,41,41]
def arx:List UInt8:=[32,40,102,110,32,105,100,32,40,97,41,32,40,41,32,40,40,120,32,39,97,41,41,32,39,97,32,120,41,32,40,102,110,32,98,111,116,104,32,40,97,41,32,40,40,115,104,111,119,32,39,97,41,41,32,40,40,120,32,39,97,41,41,32,105,110,116,32,40,109,101,116,104,111,100,32,115,104,111,119,32,116,119,111,32,120,32,120,41,41]
def arz:List UInt8:=[41]
def LC(b:Bool):List UInt8:=(((((((((((oC0++oC1)++oC2)++oC3)++if b=true then oC4 else oC5)++oC6)++oC7)++oC8)++oC9)++arw)++arx)++arz)
def oA:List UInt8:=[40,112,97,99,107,97,103,101,32,97,112,112,32,40,99,111,114,101,41,32,40,100,97,116,97,32,116,97,103,32,40,41,32,40,116,97,103,32,105,110,116,41,32,40,110,111,110,101,41,41]
def oH0:List UInt8:=[32,40,105,110,115,116,32,115,104,111,119,32,40,41,32,105,110,116,32,40,41,32,40,41,32,40,41,32,40,109,32,40,120,41,32,57,41,41]
def oH1:List UInt8:=[32,40,105,110,115,116,32,115,104,111,119,32,40,41,32,116,97,103,32,40,41,32,40,41,32,40,41,32,40,109,32,40,120,41,32,40,99,97,115,101,32,120,32,40,110,111,110,101,32,48,41,32,40,116,97,103,32,110,32,110,41,41,41,41]
def oH2:List UInt8:=[32,40,105,110,115,116,32,115,104,111,119,32,40,41,32,40,108,105,115,116,32,116,97,103,41,32,40,41,32,40,41,32,40,41,32,40,109,32,40,120,41,32,52,41,41,32,40,105,110,115,116,32,115,104,111,119,32,40,41,32,116,97,103,32,40,41,32,40,41,32,40,41,32,40,109,32,40,120,41,32,53,41,41]
def oH3:List UInt8:=[32,40,105,110,115,116,32,111,114,100,32,40,41,32,116,97,103,32,40,41,32,40,41,32,40,41,32,40,108,101,115,115,32,40,120,32,121,41,32,116,114,117,101,41,41]
def oH4:List UInt8:=[32,40,105,110,115,116,32,101,113,32,40,41,32,116,97,103,32,40,41,32,40,41,32,40,41,32,40,115,97,109,101,32,40,120,32,121,41,32,116,114,117,101,41,41,32,40,105,110,115,116,32,111,114,100,32,40,41,32,116,97,103,32,40,41,32,40,41,32,40,41,32,40,108,101,115,115,32,40,120,32,121,41,32,102,97,108,115,101,41,41]
def oH5:List UInt8:=[32,40,105,110,115,116,32,115,104,111,119,32,40,97,41,32,39,97,32,40,40,101,113,32,39,97,41,41,32,40,41,32,40,41,32,40,109,32,40,120,41,32,49,41,41]
def oH6:List UInt8:=[32,40,105,110,115,116,32,115,104,111,119,32,40,41,32,116,97,103,32,40,41,32,40,41,32,40,41,32,40,109,32,40,120,41,32,40,99,97,115,101,32,120,32,40,116,97,103,32,110,32,110,41,32,40,110,111,110,101,32,48,41,41,41,41]
def O3(k:Int):List UInt8:=oA++(if k=0 then oH0 else if k=1 then oH1 else if k=2 then oH2 else if k=3 then oH3 else if k=4 then oH4 else if k=5 then oH5 else oH6)
def oM:List UInt8:=[32,40,102,110,32,109,97,105,110,32,40,41,32,40,41,32,40,41,32,105,110,116,32]
def Dk:List (List UInt8):=[[40,99,97,108,108,32,98,111,116,104,32,53,41],[40,109,101,116,104,111,100,32,115,104,111,119,32,109,32,40,110,101,119,32,99,111,110,115,32,49,32,40,110,101,119,32,99,111,110,115,32,50,32,40,116,104,101,32,40,108,105,115,116,32,105,110,116,41,32,40,110,101,119,32,110,105,108,41,41,41,41,41],[40,99,97,108,108,32,98,111,116,104,32,40,110,101,119,32,112,97,105,114,32,51,32,116,114,117,101,41,41],[40,43,32,40,99,97,108,108,32,105,100,32,52,41,32,40,109,101,116,104,111,100,32,115,104,111,119,32,109,32,40,110,101,119,32,116,97,103,32,55,41,41,41],[40,108,101,116,32,122,32,40,109,101,116,104,111,100,32,97,100,100,32,112,108,117,115,32,40,110,101,119,32,98,111,120,32,49,41,32,40,110,101,119,32,98,111,120,32,50,41,41,32,40,99,97,115,101,32,122,32,40,98,111,120,32,110,32,110,41,41,41],[40,109,101,116,104,111,100,32,115,104,111,119,32,109,32,40,110,101,119,32,110,105,108,41,41],[40,109,101,116,104,111,100,32,115,104,111,119,32,109,32,40,112,97,99,107,32,115,104,111,119,32,51,41,41],[40,105,102,32,40,109,101,116,104,111,100,32,111,114,100,32,108,101,115,115,32,49,32,50,41,32,40,99,97,108,108,32,98,111,116,104,32,116,114,117,101,41,32,48,41],[40,109,101,116,104,111,100,32,115,104,111,119,32,109,32,40,110,101,119,32,99,111,110,115,32,40,110,101,119,32,116,97,103,32,49,41,32,40,116,104,101,32,40,108,105,115,116,32,116,97,103,41,32,40,110,101,119,32,110,105,108,41,41,41,41],[40,99,97,108,108,32,98,111,116,104,32,40,99,97,108,108,32,105,100,32,40,99,97,108,108,32,105,100,32,40,110,101,119,32,116,97,103,32,50,41,41,41,41]]
def oT0:List UInt8:=[32,40,102,110,32,108,101,110,32,40,97,41,32,40,41,32,40,40,120,32,40,108,105,115,116,32,39,97,41,41,41,32,105,110,116,32,40,99,97,115,101,32,120,32,40,110,105,108,32,48,41,32,40,99,111,110,115,32,104,32,116,32,40,43,32,49,32,40,99,97,108,108,32,108,101,110,32,116,41,41,41,41,41]
def oT1:List UInt8:=[32,40,102,110,32,115,117,109,32,40,97,41,32,40,40,97,100,100,32,39,97,41,41,32,40,40,120,32,39,97,41,32,40,121,32,39,97,41,41,32,40,97,115,115,111,99,32,97,100,100,32,39,97,41,32,40,109,101,116,104,111,100,32,97,100,100,32,112,108,117,115,32,120,32,121,41,41]
def oT2:List UInt8:=[32,40,102,110,32,103,114,111,119,32,40,97,41,32,40,40,115,104,111,119,32,39,97,41,41,32,40,40,110,32,105,110,116,41,32,40,120,32,39,97,41,41,32,105,110,116,32,40,105,102,32,40,60,32,110,32,49,41,32,40,109,101,116,104,111,100,32,115,104,111,119,32,109,32,120,41,32,40,99,97,108,108,32,103,114,111,119,32,40,45,32,110,32,49,41,32,40,110,101,119,32,112,97,105,114,32,120,32,120,41,41,41,41]
def Wt(k:Int)(m:List UInt8)(x y z:Bool):List UInt8:=
 (((((O3 k++(oM++m++[41]))++if x=true then oT0 else [])++if y=true then oT1 else [])++if z=true then oT2 else [])++[41])
def IC{bs:List Int}(c:Cu bs):List UInt8×Cu bs:=
 (Wt (jy 8 c).1 (sH Dk (jy 8 c).2).1 (gK 2 (sH Dk (jy 8 c).2).2).1 (gK 3 (gK 2 (sH Dk (jy 8 c).2).2).2).1 (gK 4 (gK 3 (gK 2 (sH Dk (jy 8 c).2).2).2).2).1,
   (gK 4 (gK 3 (gK 2 (sH Dk (jy 8 c).2).2).2).2).2)
def wJ{bs:List Int}(c:Cu bs):List UInt8×Cu bs:=
 if(gK 5 (gK 2 c).2).1=true then(LC (gK 2 c).1,(gK 5 (gK 2 c).2).2)
 else(LC (gK 2 c).1++[10]++(IC (gK 5 (gK 2 c).2).2).1,(IC (gK 5 (gK 2 c).2).2).2)
def acf:List (List UInt8):=[[10],[32],[40],[41],[10,10],[120]]
def LD(bs:List Int):List UInt8:=
 if(gK 12 (Cr bs)).1=true then [40,112,97,99,107,97,103,101,32,97,32,40,41,41,10,40,112,97,99,107,97,103,101,32,98,32,40,41,41,10,10,40,112,97,99,107,97,103,101,32,99,32,40,41,41,10,40,112,97,99,107,97,103,101,32,100,32,40,41,41,32,10,40,112,97,99,107,97,103,101,32,101,32,40,41,41,10,40,112,97,99,107,97,103,101,32,102,32,40,41,41]
 else(LB (wJ (gK 12 (Cr bs)).2).1 acf (wJ (gK 12 (Cr bs)).2).2).1
theorem SB(b:Bool):(LC b).length<=4000:=by cases b<;>decide
theorem SC(k:Int):(O3 k).length<=400:=by
 unfold O3;rw[List.length_append]
 have h:oA.length<=200:=by decide
 repeat' split
 all_goals (refine Nat.le_trans (Nat.add_le_add_left (m:=200) (by decide) _) (by omega))
theorem Nc:∀s∈Dk,s.length<=200:=by decide
theorem Wu(k:Int)(m:List UInt8)(hm:m.length<=200)(x y z:Bool):(Wt k m x y z).length<=2000:=by
 have h:=SC k
 have h0:oM.length<=100:=by decide
 have h1:(if x=true then oT0 else []).length<=200:=by cases x<;>decide
 have h2:(if y=true then oT1 else []).length<=200:=by cases y<;>decide
 have h3:(if z=true then oT2 else []).length<=200:=by cases z<;>decide
 unfold Wt;simp only[List.length_append,List.length_cons,List.length_nil];omega
theorem O4{bs:List Int}(c:Cu bs):(wJ c).1.length<=6100:=by
 have h1:=SB (gK 2 c).1;unfold wJ;split
 ·simp only;omega
 ·have h2:(IC (gK 5 (gK 2 c).2).2).1.length<=2000:=Wu _ _ (Nc _ (BQ _ (by decide))) _ _ _;simp only[List.length_append,List.length_cons,List.length_nil];omega
theorem afc{bs:List Int}(s:List UInt8)(xs:List (List UInt8))(c:Cu bs)(h1:1<=xs.length)(h:∀x∈xs,x.length<=100):(LB s xs c).1.length<=s.length+100:=by
 unfold LB;split
 ·have:=h _ (BQ (jy 6 (oH (s.length+1) c).2).2 h1);simp only[List.length_append,List.length_take,List.length_drop];omega
 split
 ·simp only[List.length_take];omega
 ·simp only;omega
theorem afd(bs:List Int):(LD bs).length<=10000:=by
 unfold LD;split
 ·decide
 ·have h1:=O4 (gK 12 (Cr bs)).2;have h2:=afc (wJ (gK 12 (Cr bs)).2).1 acf (wJ (gK 12 (Cr bs)).2).2 (by decide) (by decide);omega
theorem acg{bs:List Int}(hB:Bytes bs)(c:Cu bs)(l j:Nat)(S:Store)(hk:bA S (l,j)=some (.box (cur c))):
 dw prog 26 [.c (.ptr (l,j) 0)] S (fun r S'=>r=.c (.d (.s (LC (gK 2 c).1)))/\S'=bJ S (l,j) (.box (cur (gK 2 c).2))):=by
 have q:=yT hB c (1+l) j ([]::S) 2 (by rw[cu];exact hk) (by omega) (by omega);rw[dn] at q
 generalize hx:(gK 2 c).1=x at *
 generalize hc1:(gK 2 c).2=c1 at *
 obtain⟨T,hT⟩:∃T,T=LC x:=⟨_,rfl⟩;rw[<-hT];refine zcx [.tmp 2] func26 ntmps26 ?_;refine W1 ?_
 repeat(refine⟨by decide +kernel,?_⟩)
 refine cK rfl q ?_;cases x
 ·refine W1 ?_
  repeat(refine⟨by decide +kernel,?_⟩)
  subst hT;rfl
 ·refine W1 ?_
  repeat(refine⟨by decide +kernel,?_⟩)
  subst hT;rfl
theorem afe{bs:List Int}(hB:Bytes bs)(c:Cu bs)(l j:Nat)(S:Store)(hk:bA S (l,j)=some (.box (cur c))):
 dw prog 27 [.c (.ptr (l,j) 0)] S (fun r S'=>r=.c (.d (.s (IC c).1))/\S'=bJ S (l,j) (.box (cur (IC c).2))):=by
 have g:∀x:Ab.Obj,bA (bJ S (l,j) x) (l,j)=some x:=fun x=>eO _ _ _ _ hk;unfold IC;have q1:=zL hB c (1+l) j ([]::S) 8 (by rw[cu];exact hk) (by omega) (by omega);have r1:=zK (n:=8) c (by omega);rw[dn] at q1
 generalize hkd:(jy 8 c).1=k at *
 generalize hc1:(jy 8 c).2=c1 at *
 have q2:=SA hB c1 (1+l) j ([]::bJ S (l,j) (.box (cur c1))) Dk (by rw[cu];exact g _) (by decide) (by decide);rw[dn,bQ] at q2;obtain⟨T,hT⟩:∃T,T=O3 k:=⟨_,rfl⟩;have fP:T.length<=400:=hT▸SC k;obtain⟨m,hm⟩:∃m,m=(sH Dk c1).1:=⟨_,rfl⟩;have hml:m.length<=200:=hm▸Nc _ (BQ c1 (by decide))
 generalize hc2:(sH Dk c1).2=c2 at *
 rw[<-hm] at q2 ⊢;have q3:=yT hB c2 (1+l) j ([]::bJ S (l,j) (.box (cur c2))) 2 (by rw[cu];exact g _) (by omega) (by omega);rw[dn,bQ] at q3
 generalize hx:(gK 2 c2).1=x at *
 generalize hc3:(gK 2 c2).2=c3 at *
 have q4:=yT hB c3 (1+l) j ([]::bJ S (l,j) (.box (cur c3))) 3 (by rw[cu];exact g _) (by omega) (by omega);rw[dn,bQ] at q4
 generalize hy:(gK 3 c3).1=y at *
 generalize hc4:(gK 3 c3).2=c4 at *
 have q5:=yT hB c4 (1+l) j ([]::bJ S (l,j) (.box (cur c4))) 4 (by rw[cu];exact g _) (by omega) (by omega);rw[dn,bQ] at q5
 generalize hz:(gK 4 c4).1=z at *
 generalize hc5:(gK 4 c4).2=c5 at *
 obtain⟨R,hR⟩:∃R,R=Wt k m x y z:=⟨_,rfl⟩;rw[<-hR];unfold Wt at hR;rw[<-hT] at hR;refine BP [31] (rs:=[.tmp 2]) zmx func27 ntmps27 rfl rfl rfl rfl rfl ?_;refine W1 ?_;refine cK rfl q1 ?_;refine W1 ?_
 repeat' (first|refine S0 (fun hb h=>?_) fun hb h=>?_)
 all_goals
  unfold O3 at hT
  repeat(first|rw[if_pos (by assumption)] at hT|rw[if_neg (by assumption)] at hT)
  repeat(refine⟨by first|decide +kernel|omega|(simp only[List.append_eq,List.length_append,List.length_cons,List.length_nil];omega)|(cases l<;>rfl),?_⟩)
  refine mQ [true] rfl q2 ?_;refine W1 ?_
  repeat(refine⟨by first|decide +kernel|omega|(simp only[List.append_eq,List.length_append,List.length_cons,List.length_nil];omega)|(cases l<;>rfl),?_⟩)
  try(simp -implicitDefEqProofs (disch:=omega) only[go_sem])
  refine cK rfl q3 ?_;cases x
  all_goals
   refine W1 ?_
   repeat(refine⟨by first|decide +kernel|omega|(simp only[List.append_eq,List.length_append,List.length_cons,List.length_nil];omega)|(cases l<;>rfl),?_⟩)
   refine cK rfl q4 ?_;cases y
   all_goals
    refine W1 ?_
    repeat(refine⟨by first|decide +kernel|omega|(simp only[List.append_eq,List.length_append,List.length_cons,List.length_nil];omega)|(cases l<;>rfl),?_⟩)
    refine cK rfl q5 ?_;cases z
    all_goals
     refine W1 ?_
     repeat(refine⟨by first|decide +kernel|omega|(simp only[List.append_eq,List.length_append,List.length_cons,List.length_nil];omega)|(cases l<;>rfl),?_⟩)
     subst hR;subst hT;simp only[reduceIte,Bool.false_eq_true,List.append_eq,List.append_assoc,List.nil_append,List.append_nil,List.cons_append];rfl
theorem Y7{bs:List Int}(hB:Bytes bs)(c:Cu bs)(l j:Nat)(S:Store)(hk:bA S (l,j)=some (.box (cur c))):
 dw prog 13 [.c (.ptr (l,j) 0)] S (fun r S'=>r=.c (.d (.s (wJ c).1))/\S'=bJ S (l,j) (.box (cur (wJ c).2))):=by
 have g:∀x:Ab.Obj,bA (bJ S (l,j) x) (l,j)=some x:=fun x=>eO _ _ _ _ hk;unfold wJ;have q1:=acg hB c (1+l) j ([]::S) (by rw[cu];exact hk);rw[dn] at q1;have r1:=SB (gK 2 c).1
 generalize hs:LC (gK 2 c).1=s at *
 generalize hc1:(gK 2 c).2=c1 at *
 have q2:=yT hB c1 (1+l) j ([]::bJ S (l,j) (.box (cur c1))) 5 (by rw[cu];exact g _) (by omega) (by omega);rw[dn,bQ] at q2
 generalize hx:(gK 5 c1).1=x at *
 generalize hc2:(gK 5 c1).2=c2 at *
 have q3:=afe hB c2 (1+l) j ([]::bJ S (l,j) (.box (cur c2))) (by rw[cu];exact g _);rw[dn,bQ] at q3;have r3:(IC c2).1.length<=2000:=Wu _ _ (Nc _ (BQ _ (by decide))) _ _ _
 generalize ht:(IC c2).1=t at *
 generalize hc3:(IC c2).2=c3 at *
 obtain⟨Q,hQ⟩:∃Q,Q=(if x=true then(s,c2) else(s++[10]++t,c3)):=⟨_,rfl⟩;rw[<-hQ];refine BP [31] (rs:=[.tmp 2]) zmx func13 ntmps13 rfl rfl rfl rfl rfl ?_;refine W1 ?_;refine cK rfl q1 ?_;refine W1 ?_;refine cK rfl q2 ?_;cases x
 ·simp only[reduceIte,Bool.false_eq_true] at hQ;subst hQ;refine W1 ?_;refine⟨by omega,?_⟩;refine cK rfl q3 ?_;simp -implicitDefEqProofs (disch:=omega) only[go_sem,List.length_append,List.length_cons,List.length_nil]
  repeat(refine⟨by first|omega|(cases l<;>rfl),?_⟩)
  try(simp -implicitDefEqProofs (disch:=omega) only[go_sem])
  first|done|omega|rfl
 ·simp only[reduceIte] at hQ;subst hQ;exact Z1
  first|done|rfl
theorem Y8{bs:List Int}(hB:Bytes bs):aC prog 5 [.c (.d (.sl (bs.map Ep)))] (.c (.d (.s (LD bs)))):=fun S=>by
 obtain⟨R,hR⟩:∃R,R=LD bs:=⟨_,rfl⟩;rw[<-hR];unfold LD at hR;have r1:=O4 (gK 12 (Cr bs)).2
 generalize hx:(gK 12 (Cr bs)).1=x at *
 generalize hc1:(gK 12 (Cr bs)).2=c1 at *
 generalize hw:(wJ c1).1=w at *
 generalize hc2:(wJ c1).2=c2 at *
 refine BP [31] (rs:=[.tmp 2]) zmx func5 ntmps5 rfl rfl rfl rfl rfl ?_;refine W1 ?_;refine cK rfl (aiy hB _ _) ?_;refine W1 ?_;refine cK rfl (yT hB (Cr bs) 0 0 _ 12 rfl (by omega) (by omega)) ?_;rw[hx,hc1];cases x
 ·simp only[reduceIte,Bool.false_eq_true] at hR;subst hR;refine W1 ?_;refine cK rfl (Y7 hB c1 0 0 _ rfl) ?_;rw[hw,hc2];refine W1 ?_;refine mQ [true] rfl (Y6 hB c2 0 0 _ w acf rfl (by omega) (by decide) (by decide) (by decide)) ?_;exact Z1
  repeat(refine⟨by first|omega|rfl,?_⟩)
  try(simp -implicitDefEqProofs (disch:=omega) only[go_sem])
  first|done|omega|rfl
 ·simp only[reduceIte] at hR;subst hR;refine W1 ?_
  first|done|rfl
end Go.Ab