/-
  SEVERAL TEXTS IN ONE (merged by program): contracts and models, each with its own heading.
-/
import Derived.Test.YtfhpfkaeldgcmaaGreatPartHfbF
import Derived.Test.YtfhpfkaeldgcmaaGreatPartHfbR
open Go.Proofs Go.Proofs.Tryz
set_option linter.unusedSimpArgs false
set_option linter.unusedVariables false
set_option maxRecDepth 4000
namespace Go.Ab
def Il(S:Store)(os:List Obj):Store:=match S with
 |fr::Ω=>(fr++os)::Ω
 |[]=>[]
def xk(S:Store):Nat:=match S with
 |fr::_=>fr.length
 |[]=>0
def zh(S:Store):Bool:=match S with
 |_::_=>true
 |[]=>false
theorem Ac{fr:List Obj}{Ω:Store}{os:List Obj}:Il (fr::Ω) os=(fr++os)::Ω:=rfl
theorem mY{fr:List Obj}{Ω:Store}:xk (fr::Ω)=fr.length:=rfl
theorem Un{fr:List Obj}{Ω:Store}:zh (fr::Ω)=true:=rfl
theorem X9{k:Key}{x:Obj}:∀{S:Store},zh (bq S k x)=zh S
 |[]=>rfl
 |fr::S=>by
  obtain⟨l,j⟩:=k;cases l<;>rfl
theorem aea{k:Key}{x:Obj}:∀{S:Store},xk (bq S k x)=xk S
 |[]=>rfl
 |fr::S=>by
  obtain⟨l,j⟩:=k;cases l
  ·show(fr.set j x).length=fr.length
   simp
  ·rfl
def nA(P:Program)(f:FuncId)(args:List V)(S:Store)(raw:V->List Obj->Store->Prop):Prop:=
 Known P f/\∀w σ β vs,eH w σ S β->rG w σ S β args vs->
  Calls P f vs.toArray w fun e w'=>∃v r own S1 bo β1 σ',e=.returned v/\eH w' σ' (own::S1) (bo::β1)/\Keep S β S1 β1/\Step S β σ w (own::S1) (bo::β1) σ' w'/\dP w' σ' (own::S1) (bo::β1) r v/\raw r own S1
def Nc(P:Program)(rs:List ResultVar)(raw:V->List Obj->Store->Prop)(e:Exit)(s:St):Prop:=
 match e with
 | .normal| .ret=>(nM P rs s).1/\match s.st with
   |own::S1=>raw (nM P rs s).2 own S1
   |[]=>False
 |_=>False
section
variable {P:Program} {N:Nat} {s:St} {S:Store}
theorem Gy{f:FuncId}{fn:Func}{c:Code}{args:List V}{raw:V->List Obj->Store->Prop}(hf:P.funcs[f]? =some fn)(hb:fn.body=some c)(hn:(fn.name== "runtime.NumGoroutine")=false)
 (hl:args.length<=fn.ntmps)(h:AW P fn.ntmps c (Nc P fn.results.toList raw) ⟨kM (args.map (V.up 1)) 0,[]::S⟩):nA P f args S raw:=by
 refine⟨⟨fn,hf,hn,by simp[hb]⟩,fun w σ β vs hS hargs=> ?_⟩;refine calls_of_wp hf hb ?_;have hlen:vs.length=args.length:=hargs.1.symm
 have Qz:jN fn.ntmps ⟨kM (args.map (V.up 1)) 0,[]::S⟩ {tmps:=vs.toArray++Array.replicate (fn.ntmps-vs.toArray.size) undef,defers:=[]} w σ ([]::β):=by
  refine⟨by simp;omega,rfl,hS.up1,fun t=> ?_⟩;show dP w σ ([]::S) ([]::β) (look (kM (args.map (V.up 1)) 0) t) _;rw[zX,if_pos (Nat.zero_le _),Nat.sub_zero,List.getElem?_map]
  cases ha:args[t]? with
  |none=>exact trivial
  |some x=>
   obtain⟨v,hv,hr⟩:=hargs.2 t x ha;have ht:=(List.getElem?_eq_some_iff.1 hv).1
   have:(vs.toArray++Array.replicate (fn.ntmps-vs.toArray.size) undef).getD t undef=v:=by
    rw[Array.getD_eq_getD_getElem?,Array.getElem?_append_left (by simpa using ht)];simp[hv]
   rw[this];exact Ht (S:=[]::S) (β:=[]::β) 1 hr
 refine wp_mono (h _ w σ ([]::β) Qz) ?_;rintro e a' w' ⟨s',σ',β',hR,hst,hkp,hq⟩
 have main:((nM P fn.results.toList s').1/\match s'.st with
  |own::S1=>raw (nM P fn.results.toList s').2 own S1
  |[]=>False)->
   a'.defers=[]/\∃v,(results fn a'.tmps).run P w'=.ok v w'/\∃v1 r own S1 bo β1 σ',Ending.returned v=Ending.returned v1/\eH w' σ' (own::S1) (bo::β1)/\Keep S β S1 β1/\Step S β σ w (own::S1) (bo::β1) σ' w'/\dP w' σ' (own::S1) (bo::β1) r v1/\raw r own S1:=by
  rintro⟨q1,q2⟩;obtain⟨v,hv,hrep⟩:=FR (fn:=fn) hR q1;obtain⟨tm,st⟩:=s';simp only at q2;split at q2
  ·rename_i own S1;obtain⟨bo,β1,rfl,hlo⟩:=frames hR;have hst':Step ([]::S) ([]::β) σ w (own::S1) (bo::β1) σ' w':=hst;exact⟨hR.defers,v,hv,v,_,own,S1,bo,β1,σ',rfl,hR.S,hkp,⟨hst'.size,hst'.os,hst'.output,fun b hb ho=>hst'.far b hb (fun x=>ho (Ak x)),hst'.near,fun b hb=>(hst'.own b hb).imp Ak id⟩,hrep,q2⟩
  ·exact q2.elim
 cases e with
 |normal=>exact main hq
 |ret=>exact main hq
 |_=>exact hq.elim
def RU(P:Program)(rs:List ResultVar)(raw:V->List Obj->Store->Prop)(s:St)(r:R):Prop:=r.1/\match s.st with
 |own::S1=>raw r.2 own S1
 |[]=>False
@[congr] theorem akM {rs:List ResultVar} {raw:V->List Obj->Store->Prop} {s s':St} {r r':R} (h1:s=s') (h2:r=r'):RU P rs raw s r=RU P rs raw s' r':=by rw[h1,h2]
theorem aeb{rs:List ResultVar}{raw:V->List Obj->Store->Prop}{tm:List (Nat×V)}{S:Store}:Nc P rs raw .ret ⟨tm,S⟩=RU P rs raw ⟨tm,S⟩ (nM P rs ⟨tm,S⟩):=rfl
theorem Uo{rs:List ResultVar}{raw:V->List Obj->Store->Prop}{tm:List (Nat×V)}{S:Store}:Nc P rs raw .normal ⟨tm,S⟩=RU P rs raw ⟨tm,S⟩ (nM P rs ⟨tm,S⟩):=rfl
theorem agP{rs:List ResultVar}{raw:V->List Obj->Store->Prop}{tm:List (Nat×V)}{own:List Obj}{S1:Store}{p:Prop}{v:V}:RU P rs raw ⟨tm,own::S1⟩ (p,v)=(p/\raw v own S1):=rfl
theorem DK{f:FuncId}{fn:Func}{c:Code}{args:List V}{raw:V->List Obj->Store->Prop}{rs:List ResultVar}(fu:P.follows .mixedOrders=true)(hf:P.funcs[f]? =some fn)(hN:fn.ntmps=N)
 (hb:fn.body=some c) (hn:(fn.name== "runtime.NumGoroutine")=false) (hr:fn.results.toList=rs) (hl:Nat.ble args.length N=true) (hok:codeOk N c=true)
 (h:CW P N c (Nc P rs raw) ⟨kM (args.map (V.up 1)) 0,[]::S⟩):nA P f args S raw:=by
 subst hN;subst hr;exact Gy hf hb hn (Nat.le_of_ble_eq_true hl) (jG fu c _ _ hok h)
theorem Vk(T:List TypeId){f:FuncId}{fn:Func}{c:Code}{args:List V}{raw:V->List Obj->Store->Prop}{rs:List ResultVar}(fu:P.follows .mixedOrders=true)(hf:P.funcs[f]? =some fn)(hN:fn.ntmps=N)
 (hb:fn.body=some c) (hn:(fn.name== "runtime.NumGoroutine")=false) (hr:fn.results.toList=rs) (hl:Nat.ble args.length N=true) (hok:nZ T N c=true)
 (h:mI P N T c (Nc P rs raw) ⟨kM (args.map (V.up 1)) 0,[]::S⟩):nA P f args S raw:=by
 subst hN;subst hr;exact Gy hf hb hn (Nat.le_of_ble_eq_true hl) (nT fu c _ _ hok h)
theorem nA.mono{f:FuncId}{args:List V}{raw raw':V->List Obj->Store->Prop}(h:nA P f args S raw)(hi:∀r own S1,raw r own S1->raw' r own S1):nA P f args S raw':=
 ⟨h.1,fun w σ β vs hS hv=>(h.2 w σ β vs hS hv).mono fun e w' ⟨v,r,own,S1,bo,β1,σ',q1,q2,q3,q4,q5,q6⟩=>⟨v,r,own,S1,bo,β1,σ',q1,q2,q3,q4,q5,hi _ _ _ q6⟩⟩
end
def CU(own:List Obj)(x:C)(z:Nat)(es:List (List D)):Prop:=(∃m,own[m]? =some (.tok z es)/\x=.bS (0,m) es)\/(x=.bI es/\∀e∈es,e.length=z)
section
variable {w:World} {σ:Nat->Nat} {own fr:List Obj} {Ω:Store} {bo bf:List Value} {bΩ:Hs}
theorem uH{S1:Store}{β1:Hs}{x:C}{z:Nat}{es:List (List D)}{v:Value}(h:CU own x z es)(hr:gJ w σ (own::S1) (bo::β1) x v):dN w σ (.sl es) v:=by
 rcases h with⟨m,h1,rfl⟩|⟨rfl,_⟩
 ·exact hr.1
 ·exact hr.1
theorem EG{S1:Store}{β1:Hs}{x:C}{z:Nat}{es:List (List D)}{v:Value}(hS:eH w σ (own::S1) (bo::β1))(h:CU own x z es)(hr:gJ w σ (own::S1) (bo::β1) x v):
 (∀S' β',gM w σ S' β' (.tok z es) v)/\∀b,owns (.tok z es) v b->∃m,own[m]? =some (.tok z es)/\x=.bS (0,m) es/\bo[m]? =some v:=by
 rcases h with⟨m,h1,rfl⟩|⟨rfl,h2⟩
 ·obtain⟨hd,o,ho,hl⟩:=hr;rw[bL,h1] at ho;cases ho;have hb:=(hl _ _ (.inl rfl)).2 rfl;obtain⟨hv,e1,e2⟩:=hS.obj (0,m) _ (by rw[bL];exact h1);rw[hb] at e1;cases e1;rw[bL] at hb;exact⟨fun _ _=>e2,fun b _=>⟨m,h1,rfl,hb⟩⟩
 ·obtain⟨hd,a,n,rfl⟩:=hr
  have hn:n=es.length:=by cases hd<;>rfl
  subst hn;refine⟨fun _ _=>⟨hd,h2,a,es.length,rfl,Nat.le_refl _,.inl rfl⟩,fun b hb=> ?_⟩
  cases a with
  |none=>cases hb
  |some a=>simp[owns,blk] at hb
end
def Bq(cs:List C):Bool:=cs.all fun c=>match c with
 | .d _=>true
 |_=>false
theorem Lu{w:World}{σ:Nat->Nat}{S S':Store}{β β':Hs}{c:C}{v:Value}(h:(match c with
 | .d _=>true
 |_=>false)=true) (hr:gJ w σ S β c v):gJ w σ S' β' c v:=by
 cases c<;>first|exact hr|(cases h;done)
theorem I6{w:World}{σ:Nat->Nat}{S S':Store}{β β':Hs}{pre post:List C}{x x':C}{a:List Value}(h1:Bq pre=true)(h2:Bq post=true)(hr:fD w σ S β (pre++x::post) a)
 (hx:∀v,a[pre.length]? =some v->gJ w σ S β x v->gJ w σ S' β' x' v):fD w σ S' β' (pre++x'::post) a:=by
 refine⟨by simpa using hr.1,fun j y hy=> ?_⟩;rcases Nat.lt_trichotomy j pre.length with hj|hj|hj
 ·rw[List.getElem?_append_left hj] at hy;obtain⟨v,e1,e2,e3⟩:=hr.2 j y (by rw[List.getElem?_append_left hj];exact hy);exact⟨v,e1,Lu (List.all_eq_true.1 h1 y (List.mem_of_getElem? hy)) e2,e3⟩
 ·subst hj;rw[List.getElem?_append_right (Nat.le_refl _),Nat.sub_self,List.getElem?_cons_zero] at hy;cases hy;obtain⟨v,e1,e2,e3⟩:=hr.2 pre.length x (by rw[List.getElem?_append_right (Nat.le_refl _),Nat.sub_self];rfl);exact⟨v,e1,hx v e1 e2,e3⟩
 ·rw[List.getElem?_append_right (by omega),show j-pre.length=(j-pre.length-1)+1 by omega,List.getElem?_cons_succ] at hy;obtain⟨v,e1,e2,e3⟩:=hr.2 j y (by rw[List.getElem?_append_right (by omega),show j-pre.length=(j-pre.length-1)+1 by omega,List.getElem?_cons_succ];exact hy);exact⟨v,e1,Lu (List.all_eq_true.1 h2 y (List.mem_of_getElem? hy)) e2,e3⟩
section
variable {P:Program} {S S':Store} {f:FuncId} {args:List V}
theorem nA.plain{pre post:List C}{z:Nat}{es:List (List D)}(h1:Bq pre=true)(h2:Bq post=true)(h:nA P f args S fun r own S1=>S1=S'/\∃x,r=.agg (pre++x::post)/\CU own x z es):
 cB P f args S fun r S1=>r=.agg (pre++ .d (.sl es)::post)/\S1=S':=by
 refine⟨h.1,fun w σ β vs hS hv=>(h.2 w σ β vs hS hv).mono fun e w' ⟨v,r,own,S1,bo,β1,σ',q1,q2,q3,q4,q5,q6,x,q7,q8⟩=> ?_⟩;subst q6 q7;obtain⟨a,rfl,hc⟩:=q5;exact⟨_,.agg (pre++ .d (.sl es)::post),S1,σ',β1,q1,q2.D9,q3,⟨q4.size,q4.os,q4.output,q4.far,q4.near,fun b hb=>q4.own b (tZ hb)⟩,⟨a,rfl,I6 h1 h2 hc fun v e1 e2=>uH q8 e2⟩,rfl,rfl⟩
theorem nA.push{pre post:List C}{z:Nat}{es:List (List D)}(h1:Bq pre=true)(h2:Bq post=true)(ht:zh S'=true)(h:nA P f args S fun r own S1=>S1=S'/\∃x,r=.agg (pre++x::post)/\CU own x z es):
 cB P f args S fun r S1=>r=.agg (pre++ .bS (0,xk S') es::post)/\S1=Il S' [.tok z es]:=by
 refine⟨h.1,fun w σ β vs hS hv=>(h.2 w σ β vs hS hv).mono fun e w' ⟨v,r,own,S1,bo,β1,σ',q1,q2,q3,q4,q5,q6,x,q7,q8⟩=> ?_⟩;subst q6 q7;obtain⟨a,rfl,hc⟩:=q5;obtain⟨u,e1,e2,e3⟩:=hc.2 pre.length x (by rw[List.getElem?_append_right (Nat.le_refl _),Nat.sub_self];rfl);obtain⟨k1,k2⟩:=EG q2 q8 e2
 cases S1 with
 |nil=>cases ht
 |cons fr Ω=>
 have hd:=q2.D9
 obtain⟨bf,bΩ,rfl,hlen⟩:∃bf bΩ,β1=bf::bΩ/\bf.length=fr.length:=by
  cases β1 with
  |nil=>have:=hd.shape.1;simp at this
  |cons bf bΩ=>
   refine⟨bf,bΩ,rfl,?_⟩;obtain⟨gr,q1,q2⟩:=hd.shape.2 0 fr rfl;simp at q1;rw[q1];exact q2
 obtain⟨l1,l2,l3⟩:=hd.lay (o:=.tok z es) (h:=u) hlen (k1 _ _) fun b hb ⟨k,o,hh,f1,f2,f3⟩=>by
  obtain⟨m,g1,g2,g3⟩:=k2 b hb;have:=q2.apart (0,m) (k.1+1,k.2) _ o u hh b (by rw[bL];exact g1) (by rw[bL];exact g3) hb (by rw[bX];exact f1) (by rw[bX];exact f2) f3;cases this
 refine⟨_,.agg (pre++ .bS (0,xk (fr::Ω)) es::post),_,σ',_,q1,l1,q3.trans l2,⟨q4.size,q4.os,q4.output,q4.far,q4.near,fun b hb=> ?_⟩,⟨a,rfl,I6 h1 h2 hc fun v f1 f2=> ?_⟩,rfl,rfl⟩
 ·rcases l3 b hb with q|q
  ·exact q4.own b (tZ q)
  ·obtain⟨m,g1,g2,g3⟩:=k2 b q;exact q4.own b ⟨(0,m),_,u,by rw[bL];exact g1,by rw[bL];exact g3,q⟩
 ·rw[e1] at f1;cases f1;refine⟨uH q8 e2,_,by rw[mY];exact dJ _ _ _,fun bB es' e=> ?_⟩;obtain⟨_,rfl⟩:=qj (lab:=none) e;exact⟨Nat.le_refl _,fun _=>by rw[mY,<-hlen,dJ]⟩
end
attribute [go_sem ↓] aeb Uo
attribute [go_sem] agP Ac mY Un X9 aea
def nO(s:List UInt8):ay:=.mk 1 s []
def rU(s:List UInt8)(l:List ay):ay:=.mk 2 s l
def Cc(s:List UInt8)(t:ay):ay:=.mk 3 s [t]
def aec(s:List UInt8):ay:=.mk 4 s []
def EH:List (List UInt8):=[[105,110,116],[98,111,111,108],[117,110,105,116]]
def Ce:List (List UInt8):=[[108,105,115,116],[108,105,115,116],[98,111,120]]
def kQ{bs:List Int}(vars:List (List UInt8)):Nat->Cu bs->ay×Cu bs
 |0,c=>if(aX 8 c).1<3/\0<vars.length then(nO (bQ vars (aX 8 c).2).1,(bQ vars (aX 8 c).2).2)
  else(rU (bQ EH (aX 8 c).2).1 [],(bQ EH (aX 8 c).2).2)
 |n+1,c=>if(aX 8 c).1<3/\0<vars.length then(nO (bQ vars (aX 8 c).2).1,(bQ vars (aX 8 c).2).2)
  else if(aX 8 c).1<5 then(rU (bQ EH (aX 8 c).2).1 [],(bQ EH (aX 8 c).2).2)
  else if(aX 8 c).1=5 then(rU [112,97,105,114] [(kQ vars n (aX 8 c).2).1,(kQ vars n (kQ vars n (aX 8 c).2).2).1],(kQ vars n (kQ vars n (aX 8 c).2).2).2)
  else(rU (bQ Ce (aX 8 c).2).1 [(kQ vars n (bQ Ce (aX 8 c).2).2).1],(kQ vars n (bQ Ce (aX 8 c).2).2).2)
def fq(l:List (List UInt8)):Prop:=∀s∈l,s.length<=8
theorem gW{bs:List Int}{xs:List (List UInt8)}(c:Cu bs)(h:fq xs):(bQ xs c).1.length<=8:=by
 by_cases h1:1<=xs.length
 ·exact h _ (BS c h1)
 ·have:xs=[]:=List.eq_nil_of_length_eq_zero (by omega);subst this;simp[bQ]
theorem Lv:fq EH:=by unfold fq;decide
theorem short_list:fq Ce:=by unfold fq;decide
theorem nJ(s:List UInt8):(nO s).sz=s.length:=by simp[nO,ay.sz,ay.aj,bD,D.sz,aN,ay.fName,ay.fArgs]
theorem Nf(s:List UInt8):(rU s []).sz=s.length:=by simp[rU,ay.sz,ay.aj,bD,D.sz,aN,ay.fName,ay.fArgs]
theorem Im(s:List UInt8)(t:ay):(rU s [t]).sz=s.length+1+t.sz:=by
 have:=ay.bY t;simp only[rU,ay.sz,ay.aj,bD,D.sz,aN,ay.fName,ay.fArgs,List.map_cons,List.map_nil,List.length_cons,List.length_nil] at this ⊢;omega
theorem Vl(s:List UInt8)(t u:ay):(rU s [t,u]).sz=s.length+2+t.sz+u.sz:=by
 have h1:=ay.bY t;have h2:=ay.bY u;simp only[rU,ay.sz,ay.aj,bD,D.sz,aN,ay.fName,ay.fArgs,List.map_cons,List.map_nil,List.length_cons,List.length_nil] at h1 h2 ⊢;omega
theorem Gz{bs:List Int}{vars:List (List UInt8)}(hv:fq vars):∀(n:Nat)(c:Cu bs),(kQ vars n c).1.sz+10<=18*2^n
 |0,c=>by
  rw[kQ];split
  ·have:=gW (aX 8 c).2 hv;simp only[nJ];omega
  ·have:=gW (aX 8 c).2 Lv;simp only[Nf];omega
 |n+1,c=>by
  have ih:=Gz hv n (bs:=bs)
  have hp:2^ (n+1)=2^n+2^n:=by rw[Nat.pow_succ];omega
  have h2:=Nat.one_le_two_pow (n:=n);rw[kQ];split
  ·have:=gW (aX 8 c).2 hv;simp only[nJ];omega
  split
  ·have:=gW (aX 8 c).2 Lv;simp only[Nf];omega
  split
  ·have h3:=ih (aX 8 c).2;have h4:=ih (kQ vars n (aX 8 c).2).2;simp only[Vl,List.length_cons,List.length_nil];omega
  ·have h3:=ih (bQ Ce (aX 8 c).2).2;have:=gW (aX 8 c).2 short_list;simp only[Im];omega
def tyP(t:ay):List C:=[.d (.i .i64 t.aV),.d (.s t.fName)]
theorem Ou(t:ay):Bq (tyP t)=true:=rfl
def Lx(t:ay)(S':Store)(r:V)(own:List Obj)(S1:Store):Prop:=S1=S'/\∃x,r=.agg (tyP t++x::[])/\CU own x 3 (t.fArgs.map ay.enc)
theorem RV(l:List ay):∀y∈l.map ay.enc,y.length=3:=by
 intro y hy;obtain⟨x,_,rfl⟩:=List.mem_map.1 hy;rw[ay.aj];rfl
theorem fU(s:List UInt8):bg prog 141 [.c (.d (.s s))] (.agg [.d (.i .i64 1),.d (.s s),.bI []]):=fun S=>by
 refine zcx [.cell 2 41] func141 ntmps141 ?_;simp -implicitDefEqProofs (disch:=omega) only[go_sem]
 first|done|exact⟨rfl,rfl⟩|rfl
theorem Ov(s:List UInt8)(l:List ay){es:List (List D)}(he:es=l.map ay.enc)(hl:l.length<=1048576){a:C}(ha:a=.d (.sl es)\/a=.bI es)(S:Store):nA prog 94 [.c (.d (.s s)),.c a] S (Lx (rU s l) S):=by
 subst he;refine DK (rs:=[.cell 4 41]) zmx func94 ntmps94 rfl rfl rfl rfl rfl ?_;have hln:=RV l;rcases ha with rfl|rfl
 all_goals
  simp -implicitDefEqProofs (disch:=omega) only[go_sem];refine⟨hln,⟨_,rfl,rfl⟩,fun y hy=>absurd hy List.not_mem_nil,by omega,rfl,_,rfl,.inl ⟨1,rfl,rfl⟩⟩
theorem sS{f:FuncId}{args:List V}{S S':Store}{t:ay}(h:nA prog f args S (Lx t S')):cB prog f args S (fun r S1=>r=.agg [.d (.i .i64 t.aV),.d (.s t.fName),.d (.sl (t.fArgs.map ay.enc))]/\S1=S'):=
 nA.plain (Ou t) rfl h
theorem LA{f:FuncId}{args:List V}{S S':Store}{t:ay}(ht:zh S'=true)(h:nA prog f args S (Lx t S')):
 cB prog f args S (fun r S1=>r=.agg [.d (.i .i64 t.aV),.d (.s t.fName),.bS (0,xk S') (t.fArgs.map ay.enc)]/\S1=Il S' [.tok 3 (t.fArgs.map ay.enc)]):=
 nA.push (Ou t) rfl ht h
theorem xu(s:List UInt8)(l:List ay){es:List (List D)}(he:es=l.map ay.enc)(hl:l.length<=1048576){a:C}(ha:a=.d (.sl es)\/a=.bI es){own:List Ab.Obj}{Ω:Store}:
 cB prog 94 [.c (.d (.s s)),.c a] (own::Ω) (fun r S1=>r=.agg [.d (.i .i64 2),.d (.s s),.bS (0,own.length) es]/\S1=(own++[.tok 3 es])::Ω):=by
 have:=LA (S':=own::Ω) rfl (Ov s l he hl ha (own::Ω));rw[he];exact this
theorem vO(s:List UInt8)(l:List ay){es:List (List D)}(he:es=l.map ay.enc)(hl:l.length<=1048576){a:C}(ha:a=.d (.sl es)\/a=.bI es):bg prog 94 [.c (.d (.s s)),.c a] (.agg [.d (.i .i64 2),.d (.s s),.d (.sl es)]):=fun S=>by
 have:=sS (Ov s l he hl ha S);rw[he];exact this
theorem RX{bs:List Int}{xs:List (List UInt8)}(c:Cu bs)(hi:(aX (xs.length:Int) c).1.toNat<xs.length):xs[(aX (xs.length:Int) c).1.toNat]=(bQ xs c).1:=by
 simp only[bQ,List.getD,List.getElem?_eq_getElem hi,Option.getD_some]
theorem EI{bs:List Int}(hB:Bytes bs){vars:List (List UInt8)}(hv:vars.length<=256):∀(n:Nat)(c:Cu bs)(l j:Nat)(S:Store),bA S (l,j)=some (.box (cur c))->n<=1048576->
 nA prog 132 [.c (.ptr (l,j) 0),.c (.d (.sl (vars.map encS))),.c (.d (.i .i64 n))] S (Lx (kQ vars n c).1 (bq S (l,j) (.box (cur (kQ vars n c).2)))):=by
 intro n
 induction n with
 |zero=>
  intro c l j S hk hn;have g:∀x:Ab.Obj,bA (bq S (l,j) x) (l,j)=some x:=fun x=>dw _ _ _ _ hk;obtain⟨k,hkd⟩:∃k,k=(aX 8 c).1:=⟨_,rfl⟩;obtain⟨c1,hc1⟩:∃c1,c1=(aX 8 c).2:=⟨_,rfl⟩;rw[kQ,<-hkd,<-hc1];refine DK (rs:=[.cell 6 41]) zmx func132 ntmps132 rfl rfl rfl rfl rfl ?_;simp -implicitDefEqProofs (disch:=omega) only[go_sem];refine bE rfl (d9 hB c (1+l) j _ 8 (by rw[aJ];exact hk) (by omega) (by omega)) ?_;rw[<-hkd,<-hc1];have d0:decide (((0:Nat):Int)<=0)=true:=rfl;simp -implicitDefEqProofs (disch:=omega) only[go_sem,ak]
  with_reducible refine aD (fun hb=> ?_) (fun hb=> ?_)<;>have h:=hb<;>(try simp only[wf_preprocess] at h)<;>simp -implicitDefEqProofs (disch:=omega) only[go_sem,hb,d0,ak]<;>(repeat(with_reducible refine And.intro ?_ ?_;focus first|omega|rfl|assumption|exact⟨_,rfl,rfl⟩|(simp;omega)|(simp;done)))
  rotate_left
  rw[if_neg (by omega)]
  rotate_left
  with_reducible refine aD (fun hb=> ?_) (fun hb=> ?_)<;>have h:=hb<;>(try simp only[wf_preprocess] at h)<;>simp -implicitDefEqProofs (disch:=omega) only[go_sem,hb,d0,ak]<;>(repeat(with_reducible refine And.intro ?_ ?_;focus first|omega|rfl|assumption|exact⟨_,rfl,rfl⟩|(simp;omega)|(simp;done)))
  ·have hx:=iE (n:=vars.length) c1 (by omega)
   have hi:(aX (vars.length:Int) c1).1.toNat<vars.length:=by omega
   rw[if_pos ⟨by omega,by omega⟩];refine bE rfl (d9 hB c1 (1+l) j _ vars.length (by rw[aJ];exact g _) (by omega) (by omega)) ?_;simp -implicitDefEqProofs (disch:=omega) only[go_sem,ak,ah,encS]
   (repeat(with_reducible refine And.intro ?_ ?_;focus first|omega|rfl|assumption|exact⟨_,rfl,rfl⟩|(simp;omega)|(simp;done)))
   rw[RX c1 hi];refine aB (fU (bQ vars c1).1) ?_;simp -implicitDefEqProofs (disch:=omega) only[go_sem]<;>(repeat(with_reducible refine And.intro ?_ ?_;focus first|omega|rfl|assumption|exact⟨_,rfl,rfl⟩|(simp;omega)|(simp;done)));exact⟨rfl,_,rfl,.inr ⟨rfl,fun e he=>by cases he⟩⟩
  rw[if_neg (by omega)]
  all_goals with_reducible refine aD (fun hb=> ?_) (fun hb=> ?_)<;>have h:=hb<;>(try simp only[wf_preprocess] at h)<;>simp -implicitDefEqProofs (disch:=omega) only[go_sem,hb,d0,ak]<;>(repeat(with_reducible refine And.intro ?_ ?_;focus first|omega|rfl|assumption|exact⟨_,rfl,rfl⟩|(simp;omega)|(simp;done)))
  all_goals
   refine bZ [true] rfl (dQ hB c1 (1+l) j _ EH (by rw[aJ];exact g _) (by decide) (by decide)) ?_;simp -implicitDefEqProofs (disch:=omega) only[go_sem,ak,ah];refine bE rfl (xu _ [] rfl (Nat.zero_le _) (.inr rfl)) ?_;simp -implicitDefEqProofs (disch:=omega) only[go_sem,ak,ah];exact⟨rfl,_,rfl,.inl ⟨1,rfl,rfl⟩⟩
 |succ n ih=>
  intro c l j S hk hn;have g:∀x:Ab.Obj,bA (bq S (l,j) x) (l,j)=some x:=fun x=>dw _ _ _ _ hk;obtain⟨k,hkd⟩:∃k,k=(aX 8 c).1:=⟨_,rfl⟩;obtain⟨c1,hc1⟩:∃c1,c1=(aX 8 c).2:=⟨_,rfl⟩;have ih1:=fun c l j S hk=>sS (ih c l j S hk (by omega));rw[kQ,<-hkd,<-hc1];refine DK (rs:=[.cell 6 41]) zmx func132 ntmps132 rfl rfl rfl rfl rfl ?_;simp -implicitDefEqProofs (disch:=omega) only[go_sem];refine bE rfl (d9 hB c (1+l) j _ 8 (by rw[aJ];exact hk) (by omega) (by omega)) ?_;rw[<-hkd,<-hc1];have d0:decide (((n+1:Nat):Int)<=0)=false:=decide_eq_false (by omega)
  have d1:((n+1:Nat):Int)-1=(n:Int):=by omega
  simp -implicitDefEqProofs (disch:=omega) only[go_sem,ak]
  with_reducible refine aD (fun hb=> ?_) (fun hb=> ?_)<;>have h:=hb<;>(try simp only[wf_preprocess] at h)<;>simp -implicitDefEqProofs (disch:=omega) only[go_sem,hb,d0,ak]<;>(repeat(with_reducible refine And.intro ?_ ?_;focus first|omega|rfl|assumption|exact⟨_,rfl,rfl⟩|(simp;omega)|(simp;done)))
  rotate_left
  rw[if_neg (by omega)]
  rotate_left
  with_reducible refine aD (fun hb=> ?_) (fun hb=> ?_)<;>have h:=hb<;>(try simp only[wf_preprocess] at h)<;>simp -implicitDefEqProofs (disch:=omega) only[go_sem,hb,d0,ak]<;>(repeat(with_reducible refine And.intro ?_ ?_;focus first|omega|rfl|assumption|exact⟨_,rfl,rfl⟩|(simp;omega)|(simp;done)))
  ·have hx:=iE (n:=vars.length) c1 (by omega)
   have hi:(aX (vars.length:Int) c1).1.toNat<vars.length:=by omega
   rw[if_pos ⟨by omega,by omega⟩];refine bE rfl (d9 hB c1 (1+l) j _ vars.length (by rw[aJ];exact g _) (by omega) (by omega)) ?_;simp -implicitDefEqProofs (disch:=omega) only[go_sem,ak,ah,encS]
   (repeat(with_reducible refine And.intro ?_ ?_;focus first|omega|rfl|assumption|exact⟨_,rfl,rfl⟩|(simp;omega)|(simp;done)))
   rw[RX c1 hi];refine aB (fU (bQ vars c1).1) ?_;simp -implicitDefEqProofs (disch:=omega) only[go_sem]<;>(repeat(with_reducible refine And.intro ?_ ?_;focus first|omega|rfl|assumption|exact⟨_,rfl,rfl⟩|(simp;omega)|(simp;done)));exact⟨rfl,_,rfl,.inr ⟨rfl,fun e he=>by cases he⟩⟩
  rw[if_neg (by omega)]
  all_goals
   with_reducible refine aD (fun hb=> ?_) (fun hb=> ?_)<;>have h:=hb<;>(try simp only[wf_preprocess] at h)<;>simp -implicitDefEqProofs (disch:=omega) only[go_sem,hb,d0,ak]<;>(repeat(with_reducible refine And.intro ?_ ?_;focus first|omega|rfl|assumption|exact⟨_,rfl,rfl⟩|(simp;omega)|(simp;done)))
   ·rw[if_pos (by omega)];refine bZ [true] rfl (dQ hB c1 (1+l) j _ EH (by rw[aJ];exact g _) (by decide) (by decide)) ?_;simp -implicitDefEqProofs (disch:=omega) only[go_sem,ak,ah];refine bE rfl (xu _ [] rfl (Nat.zero_le _) (.inr rfl)) ?_;simp -implicitDefEqProofs (disch:=omega) only[go_sem,ak,ah];exact⟨rfl,_,rfl,.inl ⟨1,rfl,rfl⟩⟩
   rw[if_neg (by omega)]
   with_reducible refine aD (fun hb=> ?_) (fun hb=> ?_)<;>have h:=hb<;>(try simp only[wf_preprocess] at h)<;>simp -implicitDefEqProofs (disch:=omega) only[go_sem,hb,d1,ak]<;>(repeat(with_reducible refine And.intro ?_ ?_;focus first|omega|rfl|assumption|exact⟨_,rfl,rfl⟩|(simp;omega)|(simp;done)))
   ·rw[if_pos (by omega)];refine bE rfl (ih1 c1 (1+l) j _ (by rw[aJ];exact g _)) ?_;simp -implicitDefEqProofs (disch:=omega) only[go_sem,d1,ak,ah];refine bE rfl (ih1 (kQ vars n c1).2 (1+l) j _ (by rw[aJ];exact g _)) ?_;simp -implicitDefEqProofs (disch:=omega) only[go_sem,ak,ah]
    (repeat(with_reducible refine And.intro ?_ ?_;focus first|omega|rfl|assumption|exact⟨_,rfl,rfl⟩|(simp;omega)|(simp;done)))
    refine bE rfl (xu _ [(kQ vars n c1).1,(kQ vars n (kQ vars n c1).2).1] (by simp only[List.map_cons,List.map_nil,ay.aj]) (by simp) (.inr rfl)) ?_;simp -implicitDefEqProofs (disch:=omega) only[go_sem,ak,ah];refine⟨rfl,_,rfl,.inl ⟨1,?_,?_⟩⟩<;>simp only[rU,ay.fArgs,List.map_cons,List.map_nil,ay.aj]<;>rfl
   ·rw[if_neg (by omega)];refine bZ [true] rfl (dQ hB c1 (1+l) j _ Ce (by rw[aJ];exact g _) (by decide) (by decide)) ?_;simp -implicitDefEqProofs (disch:=omega) only[go_sem,d1,ak,ah];refine bE rfl (ih1 (bQ Ce c1).2 (1+l) j _ (by rw[aJ];exact g _)) ?_;simp -implicitDefEqProofs (disch:=omega) only[go_sem,ak,ah]
    (repeat(with_reducible refine And.intro ?_ ?_;focus first|omega|rfl|assumption|exact⟨_,rfl,rfl⟩|(simp;omega)|(simp;done)))
    refine bE rfl (xu _ [(kQ vars n (bQ Ce c1).2).1] (by simp only[List.map_cons,List.map_nil,ay.aj]) (by simp) (.inr rfl)) ?_;simp -implicitDefEqProofs (disch:=omega) only[go_sem,ak,ah];refine⟨rfl,_,rfl,.inl ⟨1,?_,?_⟩⟩<;>simp only[rU,ay.fArgs,List.map_cons,List.map_nil,ay.aj]<;>rfl
def Fq:List (List UInt8):=[[97],[98]]
def GA:List (List UInt8):=[[97,100,100],[115,104,111,119]]
theorem JM:fq Fq:=by unfold fq;decide
theorem Uq:fq GA:=by unfold fq;decide
def Ya{bs:List Int}(t:ay)(c:Cu bs):ay×Cu bs:=
 if(aX 8 c).1=0 then(Cc (bQ GA (aX 8 c).2).1 t,(bQ GA (aX 8 c).2).2) else
 if(aX 8 c).1=1 then(rU [108,105,115,116] [Cc [97,100,100] t],(aX 8 c).2) else
 if(aX 8 c).1=2 then(aec [115,104,111,119],(aX 8 c).2) else(t,(aX 8 c).2)
def pW{bs:List Int}(n:Nat)(c:Cu bs):ay×Cu bs:=Ya (kQ Fq n c).1 (kQ Fq n c).2
def rV:ay:=rU [105,110,116] []
theorem Vm(s:List UInt8)(t:ay):(Cc s t).sz=s.length+1+t.sz:=by
 have:=ay.bY t;simp only[Cc,ay.sz,ay.aj,bD,D.sz,aN,ay.fName,ay.fArgs,List.map_cons,List.map_nil,List.length_cons,List.length_nil] at this ⊢;omega
theorem aiP(s:List UInt8):(aec s).sz=s.length:=by simp[aec,ay.sz,ay.aj,bD,D.sz,aN,ay.fName,ay.fArgs]
theorem Br{bs:List Int}(n:Nat)(c:Cu bs):(pW n c).1.sz<=18*2^n+10:=by
 have h:=Gz JM n c;unfold pW Ya;split
 ·have:=gW (aX 8 (kQ Fq n c).2).2 Uq;simp only[Vm];omega
 split
 ·simp only[Im,Vm,List.length_cons,List.length_nil];omega
 split
 ·simp only[aiP,List.length_cons,List.length_nil];omega
 ·show(kQ Fq n c).1.sz<=_;omega
theorem Ow(s:List UInt8)(t:ay)(h:t.sz<=4194304):bg prog 133 [.c (.d (.s s)),t.v] (.agg [.d (.i .i64 3),.d (.s s),.bI ([t].map ay.enc)]):=fun S=>by
 refine zcx [.cell 4 41] func133 ntmps133 ?_;simp -implicitDefEqProofs (disch:=omega) only[go_sem];refine aB (aaL t h) ?_;simp -implicitDefEqProofs (disch:=omega) only[go_sem]<;>(repeat(with_reducible refine And.intro ?_ ?_;focus first|omega|rfl|assumption|exact⟨_,rfl,rfl⟩|(simp;omega)|(simp;done)))
theorem jH:bg prog 92 [] rV.v:=fun S=>by
 refine zcx [.cell 0 41] func92 ntmps92 ?_;simp -implicitDefEqProofs (disch:=omega) only[go_sem];refine aB (vO [105,110,116] [] rfl (Nat.zero_le _) (.inl rfl)) ?_;simp -implicitDefEqProofs (disch:=omega) only[go_sem]
 first|done|exact⟨rfl,rfl⟩|rfl
theorem Yb{bs:List Int}(hB:Bytes bs)(n:Nat)(c:Cu bs)(l j:Nat)(S:Store)(hk:bA S (l,j)=some (.box (cur c)))(hn:n<=16):
 nA prog 91 [.c (.ptr (l,j) 0),.c (.d (.i .i64 n))] S (Lx (pW n c).1 (bq S (l,j) (.box (cur (pW n c).2)))):=by
 have g:∀x:Ab.Obj,bA (bq S (l,j) x) (l,j)=some x:=fun x=>dw _ _ _ _ hk;unfold pW;obtain⟨t,ht⟩:∃t,t=(kQ Fq n c).1:=⟨_,rfl⟩;obtain⟨c1,hc1⟩:∃c1,c1=(kQ Fq n c).2:=⟨_,rfl⟩
 have hsz:t.sz<=4194304:=by
  have:=Gz JM n c;have h2:2^n<=2^16:=Nat.pow_le_pow_right (by omega) hn;rw[ht];omega
 rw[<-ht,<-hc1];unfold Ya;obtain⟨k,hkd⟩:∃k,k=(aX 8 c1).1:=⟨_,rfl⟩;obtain⟨c2,hc2⟩:∃c2,c2=(aX 8 c1).2:=⟨_,rfl⟩;rw[<-hkd,<-hc2];refine Vk [67] (rs:=[.cell 4 41]) zmx func91 ntmps91 rfl rfl rfl rfl rfl ?_;simp -implicitDefEqProofs (disch:=omega) only[go_sem]
 have h1:=LA (S':=[.box [.d (.i .i64 0),.d (.s []),.bI []]]::bq S (l,j) (.box (cur (kQ Fq n c).2))) rfl (by
  have:=EI hB (vars:=Fq) (by decide) n c (1+l) j ([.box [.d (.i .i64 0),.d (.s []),.bI []]]::S) (by rw[aJ];exact hk) (by omega);rw[ak] at this
  exact this)
 rw[<-ht,<-hc1] at h1;refine bZ [true] rfl h1 ?_;simp -implicitDefEqProofs (disch:=omega) only[go_sem,ak];refine bE rfl (d9 hB c1 (1+l) j _ 8 (by rw[aJ];exact g _) (by omega) (by omega)) ?_;rw[<-hkd,<-hc2];simp -implicitDefEqProofs (disch:=omega) only[go_sem,ak,ah]
 with_reducible refine aD (fun hb=> ?_) (fun hb=> ?_)<;>have h:=hb<;>(try simp only[wf_preprocess] at h)<;>simp -implicitDefEqProofs (disch:=omega) only[go_sem,hb,ak,ah]<;>(repeat(with_reducible refine And.intro ?_ ?_;focus first|omega|rfl|assumption|exact⟨_,rfl,rfl⟩|(simp;omega)|(simp;done)))
 ·rw[if_pos h];refine bZ [true] rfl (dQ hB c2 (1+l) j _ GA (by rw[aJ];exact g _) (by decide) (by decide)) ?_;simp -implicitDefEqProofs (disch:=omega) only[go_sem,ak,ah];refine aB (Ow (bQ GA c2).1 t hsz) ?_;simp -implicitDefEqProofs (disch:=omega) only[go_sem,ak,ah];refine⟨by cases l<;>rfl,?_⟩;simp -implicitDefEqProofs (disch:=omega) only[go_sem,ak,ah];exact⟨rfl,_,rfl,.inr ⟨by simp[Cc,ay.fArgs,ay.aj],RV [t]⟩⟩
 rw[if_neg h]
 with_reducible refine aD (fun hb=> ?_) (fun hb=> ?_)<;>have h:=hb<;>(try simp only[wf_preprocess] at h)<;>simp -implicitDefEqProofs (disch:=omega) only[go_sem,hb,ak,ah]<;>(repeat(with_reducible refine And.intro ?_ ?_;focus first|omega|rfl|assumption|exact⟨_,rfl,rfl⟩|(simp;omega)|(simp;done)))
 ·rw[if_pos h];refine aB (Ow [97,100,100] t hsz) ?_;simp -implicitDefEqProofs (disch:=omega) only[go_sem,ak,ah]
  (repeat(with_reducible refine And.intro ?_ ?_;focus first|omega|rfl|assumption|exact⟨_,rfl,rfl⟩|(simp;omega)|(simp;done)))
  refine bE rfl (xu _ [Cc [97,100,100] t] (by simp[Cc,ay.aj,ay.aV,ay.fName,ay.fArgs]) (by simp) (.inr rfl)) ?_;simp -implicitDefEqProofs (disch:=omega) only[go_sem,ak,ah];refine⟨rfl,_,rfl,.inl ⟨3,?_,?_⟩⟩<;>simp[rU,Cc,ay.aj,ay.aV,ay.fName,ay.fArgs]
 rw[if_neg h]
 with_reducible refine aD (fun hb=> ?_) (fun hb=> ?_)<;>have h:=hb<;>(try simp only[wf_preprocess] at h)<;>simp -implicitDefEqProofs (disch:=omega) only[go_sem,hb,ak,ah]<;>(repeat(with_reducible refine And.intro ?_ ?_;focus first|omega|rfl|assumption|exact⟨_,rfl,rfl⟩|(simp;omega)|(simp;done)))
 ·rw[if_pos h];exact⟨rfl,_,rfl,.inr ⟨rfl,fun e he=>by cases he⟩⟩
 rw[if_neg h];exact⟨rfl,_,rfl,.inl ⟨1,rfl,rfl⟩⟩
theorem iH{bs:List Int}(hB:Bytes bs)(n:Nat)(c:Cu bs)(l j:Nat)(S:Store)(hk:bA S (l,j)=some (.box (cur c)))(hn:n<=16):
 cB prog 91 [.c (.ptr (l,j) 0),.c (.d (.i .i64 n))] S (fun r S1=>r=(pW n c).1.v/\S1=bq S (l,j) (.box (cur (pW n c).2))):=
 sS (Yb hB n c l j S hk hn)
section
variable {w:World} {σ:Nat->Nat}
def PK:C->Option D
 | .d d=>some d
 | .bI es=>some (.sl es)
 | .bS _ es=>some (.sl es)
 |_=>none
theorem aaS{S S':Store}{β β':Hs}{c:C}{d:D}{v:Value}(h:PK c=some d)(hr:gJ w σ S β c v):gJ w σ S' β' (.d d) v:=by
 cases c<;>simp only[PK,Option.some.injEq] at h<;>first|(cases h;done)|(subst h;first|exact hr|exact hr.1)
theorem GD{S S':Store}{β β':Hs}{pre:List C}{ds:List D}{x x' y y':C}{a:List Value}(h1:pre.map PK=ds.map some)(hr:fD w σ S β (pre++[x,y]) a)
 (hx:∀v,a[pre.length]? =some v->gJ w σ S β x v->gJ w σ S' β' x' v)(hy:∀v,a[pre.length+1]? =some v->gJ w σ S β y v->gJ w σ S' β' y' v):fD w σ S' β' (ds.map .d++[x',y']) a:=by
 have hl:pre.length=ds.length:=by have:=congrArg List.length h1;simpa using this
 refine⟨by have:=hr.1;simp only[List.length_append,List.length_map,List.length_cons,List.length_nil,hl] at this ⊢;exact this,fun j c hc=> ?_⟩;rcases Nat.lt_or_ge j pre.length with hj|hj
 ·rw[List.getElem?_append_left (by simp;omega),List.getElem?_map] at hc;obtain⟨d,hd,rfl⟩:=Option.map_eq_some_iff.1 hc;have hp:=congrArg (fun l=>l[j]?) h1;simp only[List.getElem?_map,hd,Option.map_some,List.getElem?_eq_getElem hj] at hp;obtain⟨v,e1,e2,e3⟩:=hr.2 j pre[j] (by rw[List.getElem?_append_left hj,List.getElem?_eq_getElem hj]);exact⟨v,e1,aaS (Option.some.inj hp) e2,e3⟩
 obtain⟨k,rfl⟩:∃k,j=pre.length+k:=⟨j-pre.length,by omega⟩;rw[List.getElem?_append_right (by simp;omega),List.length_map,<-hl,Nat.add_sub_cancel_left] at hc
 match k,hc with
 |0,hc=>
  cases hc;obtain⟨v,e1,e2,e3⟩:=hr.2 pre.length x (by rw[List.getElem?_append_right (Nat.le_refl _),Nat.sub_self];rfl);exact⟨v,e1,hx v e1 e2,e3⟩
 |1,hc=>
  cases hc;obtain⟨v,e1,e2,e3⟩:=hr.2 (pre.length+1) y (by rw[List.getElem?_append_right (by omega),Nat.add_sub_cancel_left];rfl);exact⟨v,e1,hy v e1 e2,e3⟩
 |k+2,hc=>simp at hc
end
section
variable {P:Program} {S S':Store} {f:FuncId} {args:List V}
def Two(ds:List D)(z z':Nat)(es es':List (List D))(S':Store)(r:V)(own:List Obj)(S1:Store):Prop:=S1=S'/\∃pre x y,r=.agg (pre++[x,y])/\pre.map PK=ds.map some/\CU own x z es/\CU own y z' es'
theorem nA.aiQ{ds:List D}{z z':Nat}{es es':List (List D)}(h:nA P f args S (Two ds z z' es es' S')):
 cB P f args S fun r S1=>r=.agg (ds.map .d++[.d (.sl es),.d (.sl es')])/\S1=S':=by
 refine⟨h.1,fun w σ β vs hS hv=>(h.2 w σ β vs hS hv).mono fun e w' ⟨v,r,own,S1,bo,β1,σ',q1,q2,q3,q4,q5,q6,pre,x,y,q7,h1,q8,q9⟩=> ?_⟩;subst q6 q7;obtain⟨a,rfl,hc⟩:=q5;exact⟨_,.agg (ds.map .d++[.d (.sl es),.d (.sl es')]),S1,σ',β1,q1,q2.D9,q3,⟨q4.size,q4.os,q4.output,q4.far,q4.near,fun b hb=>q4.own b (tZ hb)⟩,⟨a,rfl,GD (x':=.d (.sl es)) (y':=.d (.sl es')) h1 hc (fun v e1 e2=>uH q8 e2) (fun v e1 e2=>uH q9 e2)⟩,rfl,rfl⟩
theorem nA.akO{ds:List D}{z z':Nat}{es es':List (List D)}(hz:z≠z')(ht:zh S'=true)(h:nA P f args S (Two ds z z' es es' S')):
 cB P f args S fun r S1=>r=.agg (ds.map .d++[.bS (0,xk S') es,.bS (0,xk S'+1) es'])/\S1=Il S' [.tok z es,.tok z' es']:=by
 refine⟨h.1,fun w σ β vs hS hv=>(h.2 w σ β vs hS hv).mono fun e w' ⟨v,r,own,S1,bo,β1,σ',q1,q2,q3,q4,q5,q6,pre,x,y,q7,h1,q8,q9⟩=> ?_⟩;subst q6 q7;obtain⟨a,rfl,hc⟩:=q5;obtain⟨u,e1,e2,e3⟩:=hc.2 pre.length x (by rw[List.getElem?_append_right (Nat.le_refl _),Nat.sub_self];rfl);obtain⟨u',IB,e2',e3'⟩:=hc.2 (pre.length+1) y (by rw[List.getElem?_append_right (by omega),Nat.add_sub_cancel_left];rfl);obtain⟨k1,k2⟩:=EG q2 q8 e2;obtain⟨k1',k2'⟩:=EG q2 q9 e2'
 cases S1 with
 |nil=>cases ht
 |cons fr Ω=>
 have hd:=q2.D9
 obtain⟨bf,bΩ,rfl,hlen⟩:∃bf bΩ,β1=bf::bΩ/\bf.length=fr.length:=by
  cases β1 with
  |nil=>have:=hd.shape.1;simp at this
  |cons bf bΩ=>
   refine⟨bf,bΩ,rfl,?_⟩;obtain⟨gr,q1,q2⟩:=hd.shape.2 0 fr rfl;simp at q1;rw[q1];exact q2
 obtain⟨l1,l2,l3⟩:=hd.lay (o:=.tok z es) (h:=u) hlen (k1 _ _) fun b hb ⟨k,o,hh,f1,f2,f3⟩=>by
  obtain⟨m,g1,g2,g3⟩:=k2 b hb;have:=q2.apart (0,m) (k.1+1,k.2) _ o u hh b (by rw[bL];exact g1) (by rw[bL];exact g3) hb (by rw[bX];exact f1) (by rw[bX];exact f2) f3;cases this
 obtain⟨l4,l5,l6⟩:=l1.lay (o:=.tok z' es') (h:=u') (by simp[hlen]) (k1' _ _) fun b hb ⟨k,o,hh,f1,f2,f3⟩=>by
  obtain⟨m',g1',g2',g3'⟩:=k2' b hb;rcases l3 b ⟨k,o,hh,f1,f2,f3⟩ with⟨k,o,hh,f1,f2,f3⟩|q
  ·have:=q2.apart (0,m') (k.1+1,k.2) _ o u' hh b (by rw[bL];exact g1') (by rw[bL];exact g3') hb (by rw[bX];exact f1) (by rw[bX];exact f2) f3;cases this
  ·obtain⟨m,g1,g2,g3⟩:=k2 b q;have:=q2.apart (0,m') (0,m) _ _ u' u b (by rw[bL];exact g1') (by rw[bL];exact g3') hb (by rw[bL];exact g1) (by rw[bL];exact g3) q;cases this;rw[g1] at g1';injection g1' with g1';injection g1' with g1';exact hz g1'
 have el:(fr++[Obj.tok z es]).length=fr.length+1:=by simp
 refine⟨_,.agg (ds.map .d++[.bS (0,xk (fr::Ω)) es,.bS (0,xk (fr::Ω)+1) es']),_,σ',_,q1,l4,(q3.trans l2).trans l5,⟨q4.size,q4.os,q4.output,q4.far,q4.near,fun b hb=> ?_⟩,⟨a,rfl,GD h1 hc (fun v f1 f2=> ?_) fun v f1 f2=> ?_⟩,rfl,?_⟩
 ·rcases l6 b hb with q|q
  ·rcases l3 b q with q|q
   ·exact q4.own b (tZ q)
   ·obtain⟨m,g1,g2,g3⟩:=k2 b q;exact q4.own b ⟨(0,m),_,u,by rw[bL];exact g1,by rw[bL];exact g3,q⟩
  ·obtain⟨m,g1,g2,g3⟩:=k2' b q;exact q4.own b ⟨(0,m),_,u',by rw[bL];exact g1,by rw[bL];exact g3,q⟩
 ·rw[e1] at f1;cases f1;refine⟨uH q8 e2,.tok z es,?_,fun bB es' e=> ?_⟩
  ·rw[mY,bL,List.getElem?_append_left (by simp),List.getElem?_append_right (Nat.le_refl _),Nat.sub_self];rfl
  obtain⟨_,rfl⟩:=qj (lab:=none) e;refine⟨Nat.le_refl _,fun _=> ?_⟩;rw[mY,bL,<-hlen,List.getElem?_append_left (by simp),List.getElem?_append_right (Nat.le_refl _),Nat.sub_self];rfl
 ·rw[IB] at f1;cases f1;refine⟨uH q9 e2',.tok z' es',?_,fun bB es' e=> ?_⟩
  ·rw[mY,<-el];exact dJ _ _ _
  obtain⟨_,rfl⟩:=qj (lab:=none) e;refine⟨Nat.le_refl _,fun _=> ?_⟩;rw[mY,<-el,show(fr++[Obj.tok z es]).length=(bf++[u]).length by simp[hlen]];exact dJ _ _ _
 ·rw[Ac,List.append_assoc];rfl
end
def zT:ay:=.mk 0 [] []
def kU(n:Int):aC:=.mk 1 [] [] n zT [] []
def uO(n:Int):aC:=.mk 2 [] [] n zT [] []
def uV(s:List UInt8):aC:=.mk 3 [] s 0 zT [] []
def nV(k:Int)(s:List UInt8)(l:List aC):aC:=.mk k [] s 0 zT l []
def wu:List (List UInt8):=[[102],[103]]
def yO:List (List UInt8):=[[115,104,111,119],[97,100,100]]
def uP:List (List UInt8):=[[43],[45],[42],[60],[61]]
theorem RY:fq wu:=by unfold fq;decide
theorem Yc:fq yO:=by unfold fq;decide
theorem Yd:fq uP:=by unfold fq;decide
def aL:List (List UInt8):=[[97]]
theorem agQ:fq aL:=by unfold fq;decide
def kP{bs:List Int}(k:Int)(sub:List (List UInt8)->Cu bs->aC×Cu bs)(vars:List (List UInt8))(c:Cu bs):aC×Cu bs:=
 if k=1 then(uO (aX 2 c).1,(aX 2 c).2) else
 if(k=2\/k=3)/\0<vars.length then(uV (bQ vars c).1,(bQ vars c).2) else
 if k=4 then(nV 4 (bQ wu c).1 [(sub vars (bQ wu c).2).1],(sub vars (bQ wu c).2).2) else
 if k=5 then(.mk 5 (bQ yO c).1 [109] 0 zT [(sub vars (bQ yO c).2).1,(sub vars (sub vars (bQ yO c).2).2).1] [],(sub vars (sub vars (bQ yO c).2).2).2) else
 if k=6 then(nV 6 [99,111,110,115] [(sub vars c).1,(sub vars (sub vars c).2).1],(sub vars (sub vars c).2).2) else
 if k=7 then(.mk 7 [] [] 0 zT [(sub vars c).1] [.mk [110,105,108] [] (sub vars (sub vars c).2).1,.mk [99,111,110,115] [[104],[116]] (sub (vars++[[104],[116]]) (sub vars (sub vars c).2).2).1],(sub (vars++[[104],[116]]) (sub vars (sub vars c).2).2).2) else
 if k=8 then(nV 8 [121] [(sub vars c).1,(sub (vars++[[121]]) (sub vars c).2).1],(sub (vars++[[121]]) (sub vars c).2).2) else
 if k=9 then(nV 9 [] [(sub vars c).1,(sub vars (sub vars c).2).1,(sub vars (sub vars (sub vars c).2).2).1],(sub vars (sub vars (sub vars c).2).2).2) else
 if k=10 then(nV 10 (bQ uP c).1 [(sub vars (bQ uP c).2).1,(sub vars (sub vars (bQ uP c).2).2).1],(sub vars (sub vars (bQ uP c).2).2).2) else
 if k=11 then(.mk 11 [115,104,111,119] [] 0 zT [(sub vars c).1] [],(sub vars c).2) else
 if k=12 then(.mk 12 [] [] 0 (kQ aL 1 c).1 [(sub vars (kQ aL 1 c).2).1] [],(sub vars (kQ aL 1 c).2).2) else
 (kU ((aX 20 c).1-5),(aX 20 c).2)
def gY{bs:List Int}:Nat->List (List UInt8)->Cu bs->aC×Cu bs
 |0,vars,c=>kP ((aX 13 c).1.tmod 3) (fun _ c=>(kU 0,c)) vars (aX 13 c).2
 |n+1,vars,c=>kP (aX 13 c).1 (gY n) vars (aX 13 c).2
theorem fq.append{a b:List (List UInt8)}(h:fq a)(k:fq b):fq (a++b):=fun s hs=>(List.mem_append.1 hs).elim (h s) (k s)
theorem l7(k:Int)(t s:List UInt8)(n:Int)(ty:ay)(a:List aC)(b:List bn):(aC.mk k t s n ty a b).sz=t.length+s.length+ty.sz+a.length+aN (a.map aC.enc)+b.length+aN (b.map bn.enc):=by
 have:=ay.bY ty;simp only[aC.sz,aC.aj,bD,aY,D.sz,List.length_map,aC.aV,aC.bU,aC.fName,aC.fN,aC.fType,aC.fArgs,aC.bH,this];omega
theorem sI(s:List UInt8)(v:List (List UInt8))(b:aC):bD (bn.mk s v b).enc=s.length+v.length+aN (v.map encS)+b.sz:=by
 have:=aC.bY b;simp only[bn.aj,bD,aY,D.sz,List.length_map,bn.fK,bn.aS,bn.fBody,this];omega
theorem nP:zT.sz=0:=by simp[zT,ay.sz,ay.aj,bD,D.sz,aN,ay.fName,ay.fArgs]
theorem RZ{bs:List Int}{k:Int}{sub:List (List UInt8)->Cu bs->aC×Cu bs}{vars:List (List UInt8)}{m:Nat}(hv:fq vars)(hs:∀v c,fq v->(sub v c).1.sz<=m)(c:Cu bs):(kP k sub vars c).1.sz<=3*m+40:=by
 have h1:=fun c=>hs vars c hv;have h2:=fun c=>hs (vars++[[104],[116]]) c (hv.append (by unfold fq;decide));have h3:=fun c=>hs (vars++[[121]]) c (hv.append (by unfold fq;decide));unfold kP;by_cases e0:k=1
 ·rw[if_pos e0];simp only[uO,uV,nV,kU,l7,sI,nP,List.map_cons,List.map_nil,List.length_cons,List.length_nil,aN,aC.bY,encS,bD,D.sz];omega
 rw[if_neg e0];by_cases e1:(k=2\/k=3)/\0<vars.length
 ·rw[if_pos e1];simp only[uO,uV,nV,kU,l7,sI,nP,List.map_cons,List.map_nil,List.length_cons,List.length_nil,aN,aC.bY,encS,bD,D.sz];have:=gW c hv;omega
 rw[if_neg e1];by_cases e2:k=4
 ·rw[if_pos e2];simp only[uO,uV,nV,kU,l7,sI,nP,List.map_cons,List.map_nil,List.length_cons,List.length_nil,aN,aC.bY,encS,bD,D.sz];have:=gW c RY;have:=h1 (bQ wu c).2;omega
 rw[if_neg e2];by_cases e3:k=5
 ·rw[if_pos e3];simp only[uO,uV,nV,kU,l7,sI,nP,List.map_cons,List.map_nil,List.length_cons,List.length_nil,aN,aC.bY,encS,bD,D.sz];have:=gW c Yc;have:=h1 (bQ yO c).2;have:=h1 (sub vars (bQ yO c).2).2;omega
 rw[if_neg e3];by_cases e4:k=6
 ·rw[if_pos e4];simp only[uO,uV,nV,kU,l7,sI,nP,List.map_cons,List.map_nil,List.length_cons,List.length_nil,aN,aC.bY,encS,bD,D.sz];have:=h1 c;have:=h1 (sub vars c).2;omega
 rw[if_neg e4];by_cases e5:k=7
 ·rw[if_pos e5];simp only[uO,uV,nV,kU,l7,sI,nP,List.map_cons,List.map_nil,List.length_cons,List.length_nil,aN,aC.bY,encS,bD,D.sz];have:=h1 c;have:=h1 (sub vars c).2;have:=h2 (sub vars (sub vars c).2).2;omega
 rw[if_neg e5];by_cases e6:k=8
 ·rw[if_pos e6];simp only[uO,uV,nV,kU,l7,sI,nP,List.map_cons,List.map_nil,List.length_cons,List.length_nil,aN,aC.bY,encS,bD,D.sz];have:=h1 c;have:=h3 (sub vars c).2;omega
 rw[if_neg e6];by_cases e7:k=9
 ·rw[if_pos e7];simp only[uO,uV,nV,kU,l7,sI,nP,List.map_cons,List.map_nil,List.length_cons,List.length_nil,aN,aC.bY,encS,bD,D.sz];have:=h1 c;have:=h1 (sub vars c).2;have:=h1 (sub vars (sub vars c).2).2;omega
 rw[if_neg e7];by_cases e8:k=10
 ·rw[if_pos e8];simp only[uO,uV,nV,kU,l7,sI,nP,List.map_cons,List.map_nil,List.length_cons,List.length_nil,aN,aC.bY,encS,bD,D.sz];have:=gW c Yd;have:=h1 (bQ uP c).2;have:=h1 (sub vars (bQ uP c).2).2;omega
 rw[if_neg e8];by_cases e9:k=11
 ·rw[if_pos e9];simp only[uO,uV,nV,kU,l7,sI,nP,List.map_cons,List.map_nil,List.length_cons,List.length_nil,aN,aC.bY,encS,bD,D.sz];have:=h1 c;omega
 rw[if_neg e9];by_cases e10:k=12
 ·rw[if_pos e10];simp only[uO,uV,nV,kU,l7,sI,nP,List.map_cons,List.map_nil,List.length_cons,List.length_nil,aN,aC.bY,encS,bD,D.sz];have:=Gz agQ 1 c;have:=h1 (kQ aL 1 c).2;omega
 rw[if_neg e10];simp only[uO,uV,nV,kU,l7,sI,nP,List.map_cons,List.map_nil,List.length_cons,List.length_nil,aN,aC.bY,encS,bD,D.sz];omega
theorem JN{bs:List Int}:∀(n:Nat)(vars:List (List UInt8))(c:Cu bs),fq vars->(gY n vars c).1.sz+20<=60*3^n
 |0,vars,c,hv=>by
  have:=RZ (k:=(aX 13 c).1.tmod 3) (sub:=fun _ c=>(kU 0,c)) (m:=0) hv (fun v c _=>by simp[kU,l7,nP,aN]) (aX 13 c).2;rw[gY];omega
 |n+1,vars,c,hv=>by
  have ih:=JN n (bs:=bs);have:=RZ (k:=(aX 13 c).1) (sub:=gY n) (m:=60*3^n-20) hv (fun v c h=>by have:=ih v c h;omega) (aX 13 c).2;have h1:1<=3^n:=Nat.one_le_pow _ _ (by omega);rw[gY,Nat.pow_succ];omega
theorem rW(k:Int)(t s:List UInt8)(n:Int)(ty:ay)(a:List aC)(b:List bn):(aC.mk k t s n ty a b).fArgs=a:=rfl
theorem rX(k:Int)(t s:List UInt8)(n:Int)(ty:ay)(a:List aC)(b:List bn):(aC.mk k t s n ty a b).bH=b:=rfl
theorem uQ(s:List UInt8)(v:List (List UInt8))(b:aC):(bn.mk s v b).enc=.s s:: .sl (v.map encS)::b.enc:=by rw[bn.aj];rfl
def exP(t:aC):List D:=[.i .i64 t.aV,.s t.bU,.s t.fName,.i .i64 t.fN,.i .i64 t.fType.aV,.s t.fType.fName,.sl (t.fType.fArgs.map ay.enc)]
def PL(t:aC)(S':Store):V->List Obj->Store->Prop:=Two (exP t) 9 11 (t.fArgs.map aC.enc) (t.bH.map bn.enc) S'
theorem Bt(l:List aC):∀y∈l.map aC.enc,y.length=9:=by
 intro y hy;obtain⟨x,_,rfl⟩:=List.mem_map.1 hy;exact aC.dh x
theorem aee(l:List bn):∀y∈l.map bn.enc,y.length=11:=by
 intro y hy;obtain⟨x,_,rfl⟩:=List.mem_map.1 hy;exact bn.dh x
theorem pX(n:Int):bg prog 144 [.c (.d (.i .i64 n))] (.agg [.d (.i .i64 1),.d (.s []),.d (.s []),.d (.i .i64 n),.d (.i .i64 0),.d (.s []),.bI [],.bI [],.bI []]):=fun S=>by
 refine zcx [.cell 2 115] func144 ntmps144 ?_;simp -implicitDefEqProofs (disch:=omega) only[go_sem]
 first|done|exact⟨rfl,rfl⟩|rfl
theorem uI(s:List UInt8):bg prog 143 [.c (.d (.s s))] (.agg [.d (.i .i64 3),.d (.s []),.d (.s s),.d (.i .i64 0),.d (.i .i64 0),.d (.s []),.bI [],.bI [],.bI []]):=fun S=>by
 refine zcx [.cell 2 115] func143 ntmps143 ?_;simp -implicitDefEqProofs (disch:=omega) only[go_sem]
 first|done|exact⟨rfl,rfl⟩|rfl
theorem Cg(k:Int)(s:List UInt8)(l:List aC){es:List (List D)}(he:es=l.map aC.enc)(hl:l.length<=1048576){a:C}(ha:a=.d (.sl es)\/a=.bI es)(S:Store):nA prog 142 [.c (.d (.i .i64 k)),.c (.d (.s s)),.c a] S (PL (nV k s l) S):=by
 subst he;refine DK (rs:=[.cell 6 115]) zmx func142 ntmps142 rfl rfl rfl rfl rfl ?_;have hln:=Bt l;rcases ha with rfl|rfl
 all_goals
  simp -implicitDefEqProofs (disch:=omega) only[go_sem];refine⟨hln,⟨_,rfl,rfl⟩,fun y hy=>absurd hy List.not_mem_nil,by omega,rfl,[_,_,_,_,_,_,_],_,_,rfl,rfl,.inl ⟨1,rfl,rfl⟩,.inr ⟨rfl,fun e he=>by cases he⟩⟩
theorem jy{f:FuncId}{args:List V}{S S':Store}{t:aC}(h:nA prog f args S (PL t S')):cB prog f args S (fun r S1=>r=t.v/\S1=S'):=
 nA.aiQ h
theorem Ye{f:FuncId}{args:List V}{S S':Store}{t:aC}(ht:zh S'=true)(h:nA prog f args S (PL t S')):
 cB prog f args S (fun r S1=>r=.agg [.d (.i .i64 t.aV),.d (.s t.bU),.d (.s t.fName),.d (.i .i64 t.fN),.d (.i .i64 t.fType.aV),.d (.s t.fType.fName),.d (.sl (t.fType.fArgs.map ay.enc)),.bS (0,xk S') (t.fArgs.map aC.enc),.bS (0,xk S'+1) (t.bH.map bn.enc)]/\S1=Il S' [.tok 9 (t.fArgs.map aC.enc),.tok 11 (t.bH.map bn.enc)]):=
 nA.akO (by decide) ht h
theorem xA(k:Int)(s:List UInt8)(l:List aC){es:List (List D)}(he:es=l.map aC.enc)(hl:l.length<=1048576){a:C}(ha:a=.d (.sl es)\/a=.bI es){own:List Ab.Obj}{Ω:Store}:
 cB prog 142 [.c (.d (.i .i64 k)),.c (.d (.s s)),.c a] (own::Ω) (fun r S1=>r=.agg [.d (.i .i64 k),.d (.s []),.d (.s s),.d (.i .i64 0),.d (.i .i64 0),.d (.s []),.d (.sl []),.bS (0,own.length) es,.bS (0,own.length+1) []]/\S1=(own++[.tok 9 es,.tok 11 []])::Ω):=by
 have:=Ye (S':=own::Ω) rfl (Cg k s l he hl ha (own::Ω));rw[he];exact this
theorem mO{bs:List Int}(hB:Bytes bs):∀(n:Nat)(vars:List (List UInt8))(c:Cu bs)(l j:Nat)(S:Store),vars.length+2*n<=256->bA S (l,j)=some (.box (cur c))->
 nA prog 145 [.c (.ptr (l,j) 0),.c (.d (.sl (vars.map encS))),.c (.d (.i .i64 n))] S (PL (gY n vars c).1 (bq S (l,j) (.box (cur (gY n vars c).2)))):=by
 intro n
 induction n with
 |zero=>
  intro vars c l j S hv hk;have g:∀x:Ab.Obj,bA (bq S (l,j) x) (l,j)=some x:=fun x=>dw _ _ _ _ hk;have hx:=iE (n:=13) c (by omega);have hy:=Int.tmod_lt_of_pos (aX 13 c).1 (b:=3) (by omega);have hz:=Int.tmod_nonneg 3 hx.1;obtain⟨k,hkd⟩:∃k,k=(aX 13 c).1.tmod 3:=⟨_,rfl⟩;obtain⟨c1,hc1⟩:∃c1,c1=(aX 13 c).2:=⟨_,rfl⟩;rw[gY,<-hkd,<-hc1];obtain⟨q,hq⟩:∃q,q=kP k (fun _ c=>(kU 0,c)) vars c1:=⟨_,rfl⟩;rw[<-hq];refine DK (rs:=[.cell 6 115]) zmx func145 ntmps145 rfl rfl rfl rfl rfl ?_;simp -implicitDefEqProofs (disch:=omega) only[go_sem];refine bE rfl (d9 hB c (1+l) j _ 13 (by rw[aJ];exact hk) (by omega) (by omega)) ?_;rw[<-hc1];have d0:decide (((0:Nat):Int)<=0)=true:=rfl;simp -implicitDefEqProofs (disch:=omega) only[go_sem,d0,ak]
  (repeat(with_reducible refine And.intro ?_ ?_;focus first|omega|rfl|assumption|exact⟨_,rfl,rfl⟩|(simp;omega)|(simp;done)))
  rw[<-hkd] at hy hz ⊢;have d1:k<3:=hy;have n3:decide (k=3)=false:=decide_eq_false (by omega);have n4:decide (k=4)=false:=decide_eq_false (by omega);have n5:decide (k=5)=false:=decide_eq_false (by omega);have n6:decide (k=6)=false:=decide_eq_false (by omega);have n7:decide (k=7)=false:=decide_eq_false (by omega);have n8:decide (k=8)=false:=decide_eq_false (by omega);have n9:decide (k=9)=false:=decide_eq_false (by omega);have n10:decide (k=10)=false:=decide_eq_false (by omega);have n11:decide (k=11)=false:=decide_eq_false (by omega);have n12:decide (k=12)=false:=decide_eq_false (by omega)
  with_reducible refine aD (fun hb=> ?_) (fun hb=> ?_)<;>have h:=hb<;>(try simp only[wf_preprocess] at h)<;>simp -implicitDefEqProofs (disch:=omega) only[go_sem,hb,n3,n4,n5,n6,n7,n8,n9,n10,n11,n12,ak,ah]<;>(repeat(with_reducible refine And.intro ?_ ?_;focus first|omega|rfl|assumption|exact⟨_,rfl,rfl⟩|(simp;omega)|(simp;done)))
  ·subst h;simp only[kP,reduceIte] at hq;refine bE rfl (d9 hB c1 (1+l) j _ 2 (by rw[aJ];exact g _) (by omega) (by omega)) ?_;simp -implicitDefEqProofs (disch:=omega) only[go_sem,n3,n4,n5,n6,n7,n8,n9,n10,n11,n12,ak,ah];rw[hq];refine⟨rfl,[_,_,_,_,_,_,_],_,_,rfl,rfl,.inr ⟨rfl,fun e he=>by cases he⟩,.inr ⟨rfl,fun e he=>by cases he⟩⟩
  have e1:=h
  with_reducible refine aD (fun hb=> ?_) (fun hb=> ?_)<;>have h:=hb<;>(try simp only[wf_preprocess] at h)<;>simp -implicitDefEqProofs (disch:=omega) only[go_sem,hb,n3,n4,n5,n6,n7,n8,n9,n10,n11,n12,ak,ah]<;>(repeat(with_reducible refine And.intro ?_ ?_;focus first|omega|rfl|assumption|exact⟨_,rfl,rfl⟩|(simp;omega)|(simp;done)))
  ·subst h
   with_reducible refine aD (fun hb=> ?_) (fun hb=> ?_)<;>have h:=hb<;>(try simp only[wf_preprocess] at h)<;>simp -implicitDefEqProofs (disch:=omega) only[go_sem,hb,ak,ah]<;>(repeat(with_reducible refine And.intro ?_ ?_;focus first|omega|rfl|assumption|exact⟨_,rfl,rfl⟩|(simp;omega)|(simp;done)))
   ·have hl:0<vars.length:=by omega
    simp only[kP,reduceIte,Int.reduceEq,false_or,or_false,or_self,false_and,true_and,if_pos hl] at hq;refine bZ [true] rfl (dQ hB c1 (1+l) j _ vars (by rw[aJ];exact g _) (by omega) (by omega)) ?_;simp -implicitDefEqProofs (disch:=omega) only[go_sem,n3,n4,n5,n6,n7,n8,n9,n10,n11,n12,ak,ah];refine aB (uI (bQ vars c1).1) ?_;simp -implicitDefEqProofs (disch:=omega) only[go_sem,n3,n4,n5,n6,n7,n8,n9,n10,n11,n12,ak,ah];rw[hq];refine⟨rfl,[_,_,_,_,_,_,_],_,_,rfl,rfl,.inr ⟨rfl,fun e he=>by cases he⟩,.inr ⟨rfl,fun e he=>by cases he⟩⟩
   ·have hl:¬0<vars.length:=by omega
    simp only[kP,reduceIte,Int.reduceEq,false_or,or_false,or_self,false_and,true_and,if_neg hl] at hq;have hx2:=iE (n:=20) c1 (by omega);refine bE rfl (d9 hB c1 (1+l) j _ 20 (by rw[aJ];exact g _) (by omega) (by omega)) ?_;simp -implicitDefEqProofs (disch:=omega) only[go_sem,n3,n4,n5,n6,n7,n8,n9,n10,n11,n12,ak,ah]
    (repeat(with_reducible refine And.intro ?_ ?_;focus first|omega|rfl|assumption|exact⟨_,rfl,rfl⟩|(simp;omega)|(simp;done)))
    refine aB (pX ((aX 20 c1).1-5)) ?_;simp -implicitDefEqProofs (disch:=omega) only[go_sem,n3,n4,n5,n6,n7,n8,n9,n10,n11,n12,ak,ah];rw[hq];refine⟨rfl,[_,_,_,_,_,_,_],_,_,rfl,rfl,.inr ⟨rfl,fun e he=>by cases he⟩,.inr ⟨rfl,fun e he=>by cases he⟩⟩
  have e2:=h
  have e3:¬k=3:=by omega
  have e4:¬k=4:=by omega
  have e5:¬k=5:=by omega
  have e6:¬k=6:=by omega
  have e7:¬k=7:=by omega
  have e8:¬k=8:=by omega
  have e9:¬k=9:=by omega
  have e10:¬k=10:=by omega
  have e11:¬k=11:=by omega
  have e12:¬k=12:=by omega
  simp only[kP,if_neg e1,e2,e3,false_or,or_self,false_and,reduceIte,if_neg e4,if_neg e5,if_neg e6,if_neg e7,if_neg e8,if_neg e9,if_neg e10,if_neg e11,if_neg e12] at hq;have hx2:=iE (n:=20) c1 (by omega);refine bE rfl (d9 hB c1 (1+l) j _ 20 (by rw[aJ];exact g _) (by omega) (by omega)) ?_;simp -implicitDefEqProofs (disch:=omega) only[go_sem,n3,n4,n5,n6,n7,n8,n9,n10,n11,n12,ak,ah]
  (repeat(with_reducible refine And.intro ?_ ?_;focus first|omega|rfl|assumption|exact⟨_,rfl,rfl⟩|(simp;omega)|(simp;done)))
  refine aB (pX ((aX 20 c1).1-5)) ?_;simp -implicitDefEqProofs (disch:=omega) only[go_sem,n3,n4,n5,n6,n7,n8,n9,n10,n11,n12,ak,ah];rw[hq];refine⟨rfl,[_,_,_,_,_,_,_],_,_,rfl,rfl,.inr ⟨rfl,fun e he=>by cases he⟩,.inr ⟨rfl,fun e he=>by cases he⟩⟩
 |succ n ih=>
  intro vars c l j S hv hk;have g:∀x:Ab.Obj,bA (bq S (l,j) x) (l,j)=some x:=fun x=>dw _ _ _ _ hk;have hx:=iE (n:=13) c (by omega);obtain⟨k,hkd⟩:∃k,k=(aX 13 c).1:=⟨_,rfl⟩;obtain⟨c1,hc1⟩:∃c1,c1=(aX 13 c).2:=⟨_,rfl⟩;have ih1:=fun vars c l j S hv hk=>jy (ih vars c l j S hv hk);rw[gY,<-hkd,<-hc1];obtain⟨q,hq⟩:∃q,q=kP k (gY n) vars c1:=⟨_,rfl⟩;rw[<-hq];refine DK (rs:=[.cell 6 115]) zmx func145 ntmps145 rfl rfl rfl rfl rfl ?_;simp -implicitDefEqProofs (disch:=omega) only[go_sem];refine bE rfl (d9 hB c (1+l) j _ 13 (by rw[aJ];exact hk) (by omega) (by omega)) ?_;rw[<-hkd,<-hc1];have d0:decide (((n+1:Nat):Int)<=0)=false:=decide_eq_false (by omega)
  have d1:((n+1:Nat):Int)-1=(n:Int):=by omega
  simp -implicitDefEqProofs (disch:=omega) only[go_sem,d0,ak]
  have hm:∀y∈vars.map encS,y.length=1:=by
   intro y hy;obtain⟨z,_,rfl⟩:=List.mem_map.1 hy;rfl
  with_reducible refine aD (fun hb=> ?_) (fun hb=> ?_)<;>have h:=hb<;>(try simp only[wf_preprocess] at h)<;>simp -implicitDefEqProofs (disch:=omega) only[go_sem,hb,d1,ak,ah]<;>(repeat(with_reducible refine And.intro ?_ ?_;focus first|omega|rfl|assumption|exact⟨_,rfl,rfl⟩|(simp;omega)|(simp;done)))
  ·subst h;simp only[kP,reduceIte] at hq;refine bE rfl (d9 hB c1 (1+l) j _ 2 (by rw[aJ];exact g _) (by omega) (by omega)) ?_;simp -implicitDefEqProofs (disch:=omega) only[go_sem,d1,ak,ah];rw[hq];refine⟨rfl,[_,_,_,_,_,_,_],_,_,rfl,rfl,.inr ⟨rfl,fun e he=>by cases he⟩,.inr ⟨rfl,fun e he=>by cases he⟩⟩
  have e1:=h
  with_reducible refine aD (fun hb=> ?_) (fun hb=> ?_)<;>have h:=hb<;>(try simp only[wf_preprocess] at h)<;>simp -implicitDefEqProofs (disch:=omega) only[go_sem,hb,d1,ak,ah]<;>(repeat(with_reducible refine And.intro ?_ ?_;focus first|omega|rfl|assumption|exact⟨_,rfl,rfl⟩|(simp;omega)|(simp;done)))
  ·subst h
   with_reducible refine aD (fun hb=> ?_) (fun hb=> ?_)<;>have h:=hb<;>(try simp only[wf_preprocess] at h)<;>simp -implicitDefEqProofs (disch:=omega) only[go_sem,hb,d1,ak,ah]<;>(repeat(with_reducible refine And.intro ?_ ?_;focus first|omega|rfl|assumption|exact⟨_,rfl,rfl⟩|(simp;omega)|(simp;done)))
   ·have hl:0<vars.length:=by omega
    simp only[kP,reduceIte,Int.reduceEq,false_or,or_false,or_self,false_and,true_and,if_pos hl] at hq;refine bZ [true] rfl (dQ hB c1 (1+l) j _ vars (by rw[aJ];exact g _) (by omega) (by omega)) ?_;simp -implicitDefEqProofs (disch:=omega) only[go_sem,d1,ak,ah];refine aB (uI (bQ vars c1).1) ?_;simp -implicitDefEqProofs (disch:=omega) only[go_sem,d1,ak,ah];rw[hq];refine⟨rfl,[_,_,_,_,_,_,_],_,_,rfl,rfl,.inr ⟨rfl,fun e he=>by cases he⟩,.inr ⟨rfl,fun e he=>by cases he⟩⟩
   ·have hl:¬0<vars.length:=by omega
    simp only[kP,reduceIte,Int.reduceEq,false_or,or_false,or_self,false_and,true_and,if_neg hl] at hq;have hx2:=iE (n:=20) c1 (by omega);refine bE rfl (d9 hB c1 (1+l) j _ 20 (by rw[aJ];exact g _) (by omega) (by omega)) ?_;simp -implicitDefEqProofs (disch:=omega) only[go_sem,d1,ak,ah]
    (repeat(with_reducible refine And.intro ?_ ?_;focus first|omega|rfl|assumption|exact⟨_,rfl,rfl⟩|(simp;omega)|(simp;done)))
    refine aB (pX ((aX 20 c1).1-5)) ?_;simp -implicitDefEqProofs (disch:=omega) only[go_sem,d1,ak,ah];rw[hq];refine⟨rfl,[_,_,_,_,_,_,_],_,_,rfl,rfl,.inr ⟨rfl,fun e he=>by cases he⟩,.inr ⟨rfl,fun e he=>by cases he⟩⟩
  have e2:=h
  with_reducible refine aD (fun hb=> ?_) (fun hb=> ?_)<;>have h:=hb<;>(try simp only[wf_preprocess] at h)<;>simp -implicitDefEqProofs (disch:=omega) only[go_sem,hb,d1,ak,ah]<;>(repeat(with_reducible refine And.intro ?_ ?_;focus first|omega|rfl|assumption|exact⟨_,rfl,rfl⟩|(simp;omega)|(simp;done)))
  ·subst h
   with_reducible refine aD (fun hb=> ?_) (fun hb=> ?_)<;>have h:=hb<;>(try simp only[wf_preprocess] at h)<;>simp -implicitDefEqProofs (disch:=omega) only[go_sem,hb,d1,ak,ah]<;>(repeat(with_reducible refine And.intro ?_ ?_;focus first|omega|rfl|assumption|exact⟨_,rfl,rfl⟩|(simp;omega)|(simp;done)))
   ·have hl:0<vars.length:=by omega
    simp only[kP,reduceIte,Int.reduceEq,false_or,or_false,or_self,false_and,true_and,if_pos hl] at hq;refine bZ [true] rfl (dQ hB c1 (1+l) j _ vars (by rw[aJ];exact g _) (by omega) (by omega)) ?_;simp -implicitDefEqProofs (disch:=omega) only[go_sem,d1,ak,ah];refine aB (uI (bQ vars c1).1) ?_;simp -implicitDefEqProofs (disch:=omega) only[go_sem,d1,ak,ah];rw[hq];refine⟨rfl,[_,_,_,_,_,_,_],_,_,rfl,rfl,.inr ⟨rfl,fun e he=>by cases he⟩,.inr ⟨rfl,fun e he=>by cases he⟩⟩
   ·have hl:¬0<vars.length:=by omega
    simp only[kP,reduceIte,Int.reduceEq,false_or,or_false,or_self,false_and,true_and,if_neg hl] at hq;have hx2:=iE (n:=20) c1 (by omega);refine bE rfl (d9 hB c1 (1+l) j _ 20 (by rw[aJ];exact g _) (by omega) (by omega)) ?_;simp -implicitDefEqProofs (disch:=omega) only[go_sem,d1,ak,ah]
    (repeat(with_reducible refine And.intro ?_ ?_;focus first|omega|rfl|assumption|exact⟨_,rfl,rfl⟩|(simp;omega)|(simp;done)))
    refine aB (pX ((aX 20 c1).1-5)) ?_;simp -implicitDefEqProofs (disch:=omega) only[go_sem,d1,ak,ah];rw[hq];refine⟨rfl,[_,_,_,_,_,_,_],_,_,rfl,rfl,.inr ⟨rfl,fun e he=>by cases he⟩,.inr ⟨rfl,fun e he=>by cases he⟩⟩
  have e3:=h
  with_reducible refine aD (fun hb=> ?_) (fun hb=> ?_)<;>have h:=hb<;>(try simp only[wf_preprocess] at h)<;>simp -implicitDefEqProofs (disch:=omega) only[go_sem,hb,d1,ak,ah]<;>(repeat(with_reducible refine And.intro ?_ ?_;focus first|omega|rfl|assumption|exact⟨_,rfl,rfl⟩|(simp;omega)|(simp;done)))
  ·subst h;simp only[kP,reduceIte,Int.reduceEq,false_or,or_false,or_self,false_and] at hq;refine bZ [true] rfl (dQ hB c1 (1+l) j _ wu (by rw[aJ];exact g _) (by decide) (by decide)) ?_;simp -implicitDefEqProofs (disch:=omega) only[go_sem,d1,ak,ah];refine bZ [true] rfl (ih1 vars (bQ wu c1).2 (1+l) j _ (by first|omega|(simp only[List.length_append,List.length_cons,List.length_nil];omega)) (by rw[aJ];exact g _)) ?_;simp -implicitDefEqProofs (disch:=omega) only[go_sem,d1,ak,ah]
   (repeat(with_reducible refine And.intro ?_ ?_;focus first|omega|rfl|assumption|exact⟨_,rfl,rfl⟩|(simp;omega)|(simp;done)))
   refine bE rfl (xA 4 (bQ wu c1).1 [(gY n vars (bQ wu c1).2).1] (by simp only[List.map_cons,List.map_nil,aC.aj,ay.aj,List.cons_append,List.nil_append]) (by simp) (.inr rfl)) ?_;simp -implicitDefEqProofs (disch:=omega) only[go_sem,d1,ak,ah];rw[hq];refine⟨rfl,[_,_,_,_,_,_,_],_,_,rfl,rfl,.inl ⟨1,?_,?_⟩,.inl ⟨2,?_,?_⟩⟩<;>simp only[nV,rW,rX,List.map_cons,List.map_nil,aC.aj,uQ,ay.aj,encS,List.cons_append,List.nil_append]<;>rfl
  have e4:=h
  with_reducible refine aD (fun hb=> ?_) (fun hb=> ?_)<;>have h:=hb<;>(try simp only[wf_preprocess] at h)<;>simp -implicitDefEqProofs (disch:=omega) only[go_sem,hb,d1,ak,ah]<;>(repeat(with_reducible refine And.intro ?_ ?_;focus first|omega|rfl|assumption|exact⟨_,rfl,rfl⟩|(simp;omega)|(simp;done)))
  ·subst h;simp only[kP,reduceIte,Int.reduceEq,false_or,or_false,or_self,false_and] at hq;refine bZ [true] rfl (dQ hB c1 (1+l) j _ yO (by rw[aJ];exact g _) (by decide) (by decide)) ?_;simp -implicitDefEqProofs (disch:=omega) only[go_sem,d1,ak,ah];refine bZ [true] rfl (ih1 vars (bQ yO c1).2 (1+l) j _ (by first|omega|(simp only[List.length_append,List.length_cons,List.length_nil];omega)) (by rw[aJ];exact g _)) ?_;simp -implicitDefEqProofs (disch:=omega) only[go_sem,d1,ak,ah];refine bZ [true] rfl (ih1 vars (gY n vars (bQ yO c1).2).2 (1+l) j _ (by first|omega|(simp only[List.length_append,List.length_cons,List.length_nil];omega)) (by rw[aJ];exact g _)) ?_;simp -implicitDefEqProofs (disch:=omega) only[go_sem,d1,ak,ah]
   (repeat(with_reducible refine And.intro ?_ ?_;focus first|omega|rfl|assumption|exact⟨_,rfl,rfl⟩|(simp;omega)|(simp;done)))
   rw[hq];refine⟨rfl,[_,_,_,_,_,_,_],_,_,rfl,rfl,.inr ⟨?_,Bt _⟩,.inr ⟨rfl,fun e he=>by cases he⟩⟩<;>simp only[nV,rW,rX,List.map_cons,List.map_nil,aC.aj,uQ,ay.aj,encS,List.cons_append,List.nil_append]<;>rfl
  have e5:=h
  with_reducible refine aD (fun hb=> ?_) (fun hb=> ?_)<;>have h:=hb<;>(try simp only[wf_preprocess] at h)<;>simp -implicitDefEqProofs (disch:=omega) only[go_sem,hb,d1,ak,ah]<;>(repeat(with_reducible refine And.intro ?_ ?_;focus first|omega|rfl|assumption|exact⟨_,rfl,rfl⟩|(simp;omega)|(simp;done)))
  ·subst h;simp only[kP,reduceIte,Int.reduceEq,false_or,or_false,or_self,false_and] at hq;refine bZ [true] rfl (ih1 vars c1 (1+l) j _ (by first|omega|(simp only[List.length_append,List.length_cons,List.length_nil];omega)) (by rw[aJ];exact g _)) ?_;simp -implicitDefEqProofs (disch:=omega) only[go_sem,d1,ak,ah];refine bZ [true] rfl (ih1 vars (gY n vars c1).2 (1+l) j _ (by first|omega|(simp only[List.length_append,List.length_cons,List.length_nil];omega)) (by rw[aJ];exact g _)) ?_;simp -implicitDefEqProofs (disch:=omega) only[go_sem,d1,ak,ah]
   (repeat(with_reducible refine And.intro ?_ ?_;focus first|omega|rfl|assumption|exact⟨_,rfl,rfl⟩|(simp;omega)|(simp;done)))
   refine bE rfl (xA 6 [99,111,110,115] [(gY n vars c1).1,(gY n vars (gY n vars c1).2).1] (by simp only[List.map_cons,List.map_nil,aC.aj,ay.aj,List.cons_append,List.nil_append]) (by simp) (.inr rfl)) ?_;simp -implicitDefEqProofs (disch:=omega) only[go_sem,d1,ak,ah];rw[hq];refine⟨rfl,[_,_,_,_,_,_,_],_,_,rfl,rfl,.inl ⟨1,?_,?_⟩,.inl ⟨2,?_,?_⟩⟩<;>simp only[nV,rW,rX,List.map_cons,List.map_nil,aC.aj,uQ,ay.aj,encS,List.cons_append,List.nil_append]<;>rfl
  have e6:=h
  with_reducible refine aD (fun hb=> ?_) (fun hb=> ?_)<;>have h:=hb<;>(try simp only[wf_preprocess] at h)<;>simp -implicitDefEqProofs (disch:=omega) only[go_sem,hb,d1,ak,ah]<;>(repeat(with_reducible refine And.intro ?_ ?_;focus first|omega|rfl|assumption|exact⟨_,rfl,rfl⟩|(simp;omega)|(simp;done)))
  ·subst h;simp only[kP,reduceIte,Int.reduceEq,false_or,or_false,or_self,false_and] at hq;refine bZ [true] rfl (ih1 vars c1 (1+l) j _ (by first|omega|(simp only[List.length_append,List.length_cons,List.length_nil];omega)) (by rw[aJ];exact g _)) ?_;simp -implicitDefEqProofs (disch:=omega) only[go_sem,d1,ak,ah];refine bZ [true] rfl (ih1 vars (gY n vars c1).2 (1+l) j _ (by first|omega|(simp only[List.length_append,List.length_cons,List.length_nil];omega)) (by rw[aJ];exact g _)) ?_;simp -implicitDefEqProofs (disch:=omega) only[go_sem,d1,ak,ah];have ih2:=fun c l j S hk=>ih1 (vars++[[104],[116]]) c l j S (by simp only[List.length_append,List.length_cons,List.length_nil];omega) hk;simp only[List.map_append,List.map_cons,List.map_nil,encS] at ih2;refine bZ [true] rfl (ih2 (gY n vars (gY n vars c1).2).2 (1+l) j _ (by rw[aJ];exact g _)) ?_;simp -implicitDefEqProofs (disch:=omega) only[go_sem,d1,ak,ah]
   (repeat(with_reducible refine And.intro ?_ ?_;focus first|omega|rfl|assumption|exact⟨_,rfl,rfl⟩|(simp;omega)|(simp;done)))
   rw[hq];refine⟨rfl,[_,_,_,_,_,_,_],_,_,rfl,rfl,.inr ⟨?_,Bt _⟩,.inr ⟨?_,aee _⟩⟩<;>simp only[nV,rW,rX,List.map_cons,List.map_nil,aC.aj,uQ,ay.aj,encS,List.cons_append,List.nil_append]<;>rfl
  have e7:=h
  with_reducible refine aD (fun hb=> ?_) (fun hb=> ?_)<;>have h:=hb<;>(try simp only[wf_preprocess] at h)<;>simp -implicitDefEqProofs (disch:=omega) only[go_sem,hb,d1,ak,ah]<;>(repeat(with_reducible refine And.intro ?_ ?_;focus first|omega|rfl|assumption|exact⟨_,rfl,rfl⟩|(simp;omega)|(simp;done)))
  ·subst h;simp only[kP,reduceIte,Int.reduceEq,false_or,or_false,or_self,false_and] at hq;refine bZ [true] rfl (ih1 vars c1 (1+l) j _ (by first|omega|(simp only[List.length_append,List.length_cons,List.length_nil];omega)) (by rw[aJ];exact g _)) ?_;simp -implicitDefEqProofs (disch:=omega) only[go_sem,d1,ak,ah];refine⟨hm,⟨_,rfl,rfl⟩,fun y hy=>absurd hy List.not_mem_nil,by omega,by simp,⟨_,rfl,rfl⟩,by omega,?_⟩;have ih2:=fun c l j S hk=>ih1 (vars++[[121]]) c l j S (by simp only[List.length_append,List.length_cons,List.length_nil];omega) hk;simp only[List.map_append,List.map_cons,List.map_nil,encS] at ih2;refine bZ [true] rfl (ih2 (gY n vars c1).2 (1+l) j _ (by rw[aJ];exact g _)) ?_;simp -implicitDefEqProofs (disch:=omega) only[go_sem,d1,ak,ah]
   (repeat(with_reducible refine And.intro ?_ ?_;focus first|omega|rfl|assumption|exact⟨_,rfl,rfl⟩|(simp;omega)|(simp;done)))
   refine bE rfl (xA 8 [121] [(gY n vars c1).1,(gY n (vars++[[121]]) (gY n vars c1).2).1] (by simp only[List.map_cons,List.map_nil,aC.aj,ay.aj,List.cons_append,List.nil_append]) (by simp) (.inr rfl)) ?_;simp -implicitDefEqProofs (disch:=omega) only[go_sem,d1,ak,ah];rw[hq];refine⟨rfl,[_,_,_,_,_,_,_],_,_,rfl,rfl,.inl ⟨2,?_,?_⟩,.inl ⟨3,?_,?_⟩⟩<;>simp only[nV,rW,rX,List.map_cons,List.map_nil,aC.aj,uQ,ay.aj,encS,List.cons_append,List.nil_append]<;>rfl
  have e8:=h
  with_reducible refine aD (fun hb=> ?_) (fun hb=> ?_)<;>have h:=hb<;>(try simp only[wf_preprocess] at h)<;>simp -implicitDefEqProofs (disch:=omega) only[go_sem,hb,d1,ak,ah]<;>(repeat(with_reducible refine And.intro ?_ ?_;focus first|omega|rfl|assumption|exact⟨_,rfl,rfl⟩|(simp;omega)|(simp;done)))
  ·subst h;simp only[kP,reduceIte,Int.reduceEq,false_or,or_false,or_self,false_and] at hq;refine bZ [true] rfl (ih1 vars c1 (1+l) j _ (by first|omega|(simp only[List.length_append,List.length_cons,List.length_nil];omega)) (by rw[aJ];exact g _)) ?_;simp -implicitDefEqProofs (disch:=omega) only[go_sem,d1,ak,ah];refine bZ [true] rfl (ih1 vars (gY n vars c1).2 (1+l) j _ (by first|omega|(simp only[List.length_append,List.length_cons,List.length_nil];omega)) (by rw[aJ];exact g _)) ?_;simp -implicitDefEqProofs (disch:=omega) only[go_sem,d1,ak,ah];refine bZ [true] rfl (ih1 vars (gY n vars (gY n vars c1).2).2 (1+l) j _ (by first|omega|(simp only[List.length_append,List.length_cons,List.length_nil];omega)) (by rw[aJ];exact g _)) ?_;simp -implicitDefEqProofs (disch:=omega) only[go_sem,d1,ak,ah]
   (repeat(with_reducible refine And.intro ?_ ?_;focus first|omega|rfl|assumption|exact⟨_,rfl,rfl⟩|(simp;omega)|(simp;done)))
   refine bE rfl (xA 9 [] [(gY n vars c1).1,(gY n vars (gY n vars c1).2).1,(gY n vars (gY n vars (gY n vars c1).2).2).1] (by simp only[List.map_cons,List.map_nil,aC.aj,ay.aj,List.cons_append,List.nil_append]) (by simp) (.inr rfl)) ?_;simp -implicitDefEqProofs (disch:=omega) only[go_sem,d1,ak,ah];rw[hq];refine⟨rfl,[_,_,_,_,_,_,_],_,_,rfl,rfl,.inl ⟨1,?_,?_⟩,.inl ⟨2,?_,?_⟩⟩<;>simp only[nV,rW,rX,List.map_cons,List.map_nil,aC.aj,uQ,ay.aj,encS,List.cons_append,List.nil_append]<;>rfl
  have e9:=h
  with_reducible refine aD (fun hb=> ?_) (fun hb=> ?_)<;>have h:=hb<;>(try simp only[wf_preprocess] at h)<;>simp -implicitDefEqProofs (disch:=omega) only[go_sem,hb,d1,ak,ah]<;>(repeat(with_reducible refine And.intro ?_ ?_;focus first|omega|rfl|assumption|exact⟨_,rfl,rfl⟩|(simp;omega)|(simp;done)))
  ·subst h;simp only[kP,reduceIte,Int.reduceEq,false_or,or_false,or_self,false_and] at hq;refine bZ [true] rfl (dQ hB c1 (1+l) j _ uP (by rw[aJ];exact g _) (by decide) (by decide)) ?_;simp -implicitDefEqProofs (disch:=omega) only[go_sem,d1,ak,ah];refine bZ [true] rfl (ih1 vars (bQ uP c1).2 (1+l) j _ (by first|omega|(simp only[List.length_append,List.length_cons,List.length_nil];omega)) (by rw[aJ];exact g _)) ?_;simp -implicitDefEqProofs (disch:=omega) only[go_sem,d1,ak,ah];refine bZ [true] rfl (ih1 vars (gY n vars (bQ uP c1).2).2 (1+l) j _ (by first|omega|(simp only[List.length_append,List.length_cons,List.length_nil];omega)) (by rw[aJ];exact g _)) ?_;simp -implicitDefEqProofs (disch:=omega) only[go_sem,d1,ak,ah]
   (repeat(with_reducible refine And.intro ?_ ?_;focus first|omega|rfl|assumption|exact⟨_,rfl,rfl⟩|(simp;omega)|(simp;done)))
   refine bE rfl (xA 10 (bQ uP c1).1 [(gY n vars (bQ uP c1).2).1,(gY n vars (gY n vars (bQ uP c1).2).2).1] (by simp only[List.map_cons,List.map_nil,aC.aj,ay.aj,List.cons_append,List.nil_append]) (by simp) (.inr rfl)) ?_;simp -implicitDefEqProofs (disch:=omega) only[go_sem,d1,ak,ah];rw[hq];refine⟨rfl,[_,_,_,_,_,_,_],_,_,rfl,rfl,.inl ⟨1,?_,?_⟩,.inl ⟨2,?_,?_⟩⟩<;>simp only[nV,rW,rX,List.map_cons,List.map_nil,aC.aj,uQ,ay.aj,encS,List.cons_append,List.nil_append]<;>rfl
  have e10:=h
  with_reducible refine aD (fun hb=> ?_) (fun hb=> ?_)<;>have h:=hb<;>(try simp only[wf_preprocess] at h)<;>simp -implicitDefEqProofs (disch:=omega) only[go_sem,hb,d1,ak,ah]<;>(repeat(with_reducible refine And.intro ?_ ?_;focus first|omega|rfl|assumption|exact⟨_,rfl,rfl⟩|(simp;omega)|(simp;done)))
  ·subst h;simp only[kP,reduceIte,Int.reduceEq,false_or,or_false,or_self,false_and] at hq;refine bZ [true] rfl (ih1 vars c1 (1+l) j _ (by first|omega|(simp only[List.length_append,List.length_cons,List.length_nil];omega)) (by rw[aJ];exact g _)) ?_;simp -implicitDefEqProofs (disch:=omega) only[go_sem,d1,ak,ah]
   (repeat(with_reducible refine And.intro ?_ ?_;focus first|omega|rfl|assumption|exact⟨_,rfl,rfl⟩|(simp;omega)|(simp;done)))
   rw[hq];refine⟨rfl,[_,_,_,_,_,_,_],_,_,rfl,rfl,.inr ⟨?_,Bt _⟩,.inr ⟨rfl,fun e he=>by cases he⟩⟩<;>simp only[nV,rW,rX,List.map_cons,List.map_nil,aC.aj,uQ,ay.aj,encS,List.cons_append,List.nil_append]<;>rfl
  have e11:=h
  with_reducible refine aD (fun hb=> ?_) (fun hb=> ?_)<;>have h:=hb<;>(try simp only[wf_preprocess] at h)<;>simp -implicitDefEqProofs (disch:=omega) only[go_sem,hb,d1,ak,ah]<;>(repeat(with_reducible refine And.intro ?_ ?_;focus first|omega|rfl|assumption|exact⟨_,rfl,rfl⟩|(simp;omega)|(simp;done)))
  ·subst h;simp only[kP,reduceIte,Int.reduceEq,false_or,or_false,or_self,false_and] at hq;refine bZ [true] rfl (sS (EI hB (vars:=aL) (by decide) 1 c1 (1+l) j _ (by rw[aJ];exact g _) (by omega))) ?_;simp -implicitDefEqProofs (disch:=omega) only[go_sem,d1,ak,ah];refine bZ [true] rfl (ih1 vars (kQ aL 1 c1).2 (1+l) j _ (by first|omega|(simp only[List.length_append,List.length_cons,List.length_nil];omega)) (by rw[aJ];exact g _)) ?_;simp -implicitDefEqProofs (disch:=omega) only[go_sem,d1,ak,ah]
   (repeat(with_reducible refine And.intro ?_ ?_;focus first|omega|rfl|assumption|exact⟨_,rfl,rfl⟩|(simp;omega)|(simp;done)))
   rw[hq];refine⟨rfl,[_,_,_,_,_,_,_],_,_,rfl,rfl,.inr ⟨?_,Bt _⟩,.inr ⟨rfl,fun e he=>by cases he⟩⟩<;>simp only[nV,rW,rX,List.map_cons,List.map_nil,aC.aj,uQ,ay.aj,encS,List.cons_append,List.nil_append]<;>rfl
  have e12:=h;simp only[kP,if_neg e1,e2,e3,false_or,or_self,false_and,reduceIte,if_neg e4,if_neg e5,if_neg e6,if_neg e7,if_neg e8,if_neg e9,if_neg e10,if_neg e11,if_neg e12] at hq;have hx2:=iE (n:=20) c1 (by omega);refine bE rfl (d9 hB c1 (1+l) j _ 20 (by rw[aJ];exact g _) (by omega) (by omega)) ?_;simp -implicitDefEqProofs (disch:=omega) only[go_sem,d1,ak,ah]
  (repeat(with_reducible refine And.intro ?_ ?_;focus first|omega|rfl|assumption|exact⟨_,rfl,rfl⟩|(simp;omega)|(simp;done)))
  refine aB (pX ((aX 20 c1).1-5)) ?_;simp -implicitDefEqProofs (disch:=omega) only[go_sem,d1,ak,ah];rw[hq];refine⟨rfl,[_,_,_,_,_,_,_],_,_,rfl,rfl,.inr ⟨rfl,fun e he=>by cases he⟩,.inr ⟨rfl,fun e he=>by cases he⟩⟩
end Go.Ab