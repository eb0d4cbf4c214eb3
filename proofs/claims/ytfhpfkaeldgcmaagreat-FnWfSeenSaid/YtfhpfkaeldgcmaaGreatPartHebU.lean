/-
  SEVERAL TEXTS IN ONE (merged by program): contracts and models, each with its own heading.
-/
import Derived.Test.YtfhpfkaeldgcmaaGreatPartHebF
import Derived.Test.YtfhpfkaeldgcmaaGreatPartHebR
open Go.Proofs Go.Proofs.Tryz
set_option linter.unusedSimpArgs false
set_option linter.unusedVariables false
set_option maxRecDepth 4000
namespace Go.Ab
def IU(S:Store)(os:List Obj):Store:=match S with
 |fr::Ω=>(fr++os)::Ω
 |[]=>[]
def xC(S:Store):Nat:=match S with
 |fr::_=>fr.length
 |[]=>0
def zy(S:Store):Bool:=match S with
 |_::_=>true
 |[]=>false
theorem Al{fr:List Obj}{Ω:Store}{os:List Obj}:IU (fr::Ω) os=(fr++os)::Ω:=rfl
theorem mP{fr:List Obj}{Ω:Store}:xC (fr::Ω)=fr.length:=rfl
theorem Uz{fr:List Obj}{Ω:Store}:zy (fr::Ω)=true:=rfl
theorem Yn{k:Key}{x:Obj}:∀{S:Store},zy (aY S k x)=zy S
 |[]=>rfl
 |fr::S=>by
  obtain⟨l,j⟩:=k;cases l<;>rfl
theorem aeB{k:Key}{x:Obj}:∀{S:Store},xC (aY S k x)=xC S
 |[]=>rfl
 |fr::S=>by
  obtain⟨l,j⟩:=k;cases l
  ·show(fr.set j x).length=fr.length
   simp
  ·rfl
def ng(P:Program)(f:FuncId)(args:List V)(S:Store)(raw:V->List Obj->Store->Prop):Prop:=
 Known P f/\∀w σ β vs,eG w σ S β->rH w σ S β args vs->
  Calls P f vs.toArray w fun e w'=>∃v r own S1 bo β1 σ',e=.returned v/\eG w' σ' (own::S1) (bo::β1)/\Keep S β S1 β1/\Step S β σ w (own::S1) (bo::β1) σ' w'/\dN w' σ' (own::S1) (bo::β1) r v/\raw r own S1
def Nl(P:Program)(rs:List ResultVar)(raw:V->List Obj->Store->Prop)(e:Exit)(s:St):Prop:=
 match e with
 | .normal| .ret=>(nL P rs s).1/\match s.st with
   |own::S1=>raw (nL P rs s).2 own S1
   |[]=>False
 |_=>False
section
variable {P:Program} {N:Nat} {s:St} {S:Store}
theorem GY{f:FuncId}{fn:Func}{c:Code}{args:List V}{raw:V->List Obj->Store->Prop}(hf:P.funcs[f]? =some fn)(hb:fn.body=some c)(hn:(fn.name== "runtime.NumGoroutine")=false)
 (hl:args.length<=fn.ntmps)(h:AW P fn.ntmps c (Nl P fn.results.toList raw) ⟨lu (args.map (V.up 1)) 0,[]::S⟩):ng P f args S raw:=by
 refine⟨⟨fn,hf,hn,by simp[hb]⟩,fun w σ β vs hS hargs=> ?_⟩;refine calls_of_wp hf hb ?_;have hlen:vs.length=args.length:=hargs.1.symm
 have QG:jM fn.ntmps ⟨lu (args.map (V.up 1)) 0,[]::S⟩ {tmps:=vs.toArray++Array.replicate (fn.ntmps-vs.toArray.size) undef,defers:=[]} w σ ([]::β):=by
  refine⟨by simp;omega,rfl,hS.up1,fun t=> ?_⟩;show dN w σ ([]::S) ([]::β) (look (lu (args.map (V.up 1)) 0) t) _;rw[Ag,if_pos (Nat.zero_le _),Nat.sub_zero,List.getElem?_map]
  cases ha:args[t]? with
  |none=>exact trivial
  |some x=>
   obtain⟨v,hv,hr⟩:=hargs.2 t x ha;have ht:=(List.getElem?_eq_some_iff.1 hv).1
   have:(vs.toArray++Array.replicate (fn.ntmps-vs.toArray.size) undef).getD t undef=v:=by
    rw[Array.getD_eq_getD_getElem?,Array.getElem?_append_left (by simpa using ht)];simp[hv]
   rw[this];exact Ij (S:=[]::S) (β:=[]::β) 1 hr
 refine wp_mono (h _ w σ ([]::β) QG) ?_;rintro e a' w' ⟨s',σ',β',hR,hst,hkp,hq⟩
 have main:((nL P fn.results.toList s').1/\match s'.st with
  |own::S1=>raw (nL P fn.results.toList s').2 own S1
  |[]=>False)->
   a'.defers=[]/\∃v,(results fn a'.tmps).run P w'=.ok v w'/\∃v1 r own S1 bo β1 σ',Ending.returned v=Ending.returned v1/\eG w' σ' (own::S1) (bo::β1)/\Keep S β S1 β1/\Step S β σ w (own::S1) (bo::β1) σ' w'/\dN w' σ' (own::S1) (bo::β1) r v1/\raw r own S1:=by
  rintro⟨q1,q2⟩;obtain⟨v,hv,hrep⟩:=Gb (fn:=fn) hR q1;obtain⟨tm,st⟩:=s';simp only at q2;split at q2
  ·rename_i own S1;obtain⟨bo,β1,rfl,hlo⟩:=frames hR;have hst':Step ([]::S) ([]::β) σ w (own::S1) (bo::β1) σ' w':=hst;exact⟨hR.defers,v,hv,v,_,own,S1,bo,β1,σ',rfl,hR.S,hkp,⟨hst'.size,hst'.os,hst'.output,fun b hb ho=>hst'.far b hb (fun x=>ho (Az x)),hst'.near,fun b hb=>(hst'.own b hb).imp Az id⟩,hrep,q2⟩
  ·exact q2.elim
 cases e with
 |normal=>exact main hq
 |ret=>exact main hq
 |_=>exact hq.elim
def R6(P:Program)(rs:List ResultVar)(raw:V->List Obj->Store->Prop)(s:St)(r:R):Prop:=r.1/\match s.st with
 |own::S1=>raw r.2 own S1
 |[]=>False
@[congr] theorem ak6 {rs:List ResultVar} {raw:V->List Obj->Store->Prop} {s s':St} {r r':R} (h1:s=s') (h2:r=r'):R6 P rs raw s r=R6 P rs raw s' r':=by rw[h1,h2]
theorem aeC{rs:List ResultVar}{raw:V->List Obj->Store->Prop}{tm:List (Nat×V)}{S:Store}:Nl P rs raw .ret ⟨tm,S⟩=R6 P rs raw ⟨tm,S⟩ (nL P rs ⟨tm,S⟩):=rfl
theorem UA{rs:List ResultVar}{raw:V->List Obj->Store->Prop}{tm:List (Nat×V)}{S:Store}:Nl P rs raw .normal ⟨tm,S⟩=R6 P rs raw ⟨tm,S⟩ (nL P rs ⟨tm,S⟩):=rfl
theorem ahd{rs:List ResultVar}{raw:V->List Obj->Store->Prop}{tm:List (Nat×V)}{own:List Obj}{S1:Store}{p:Prop}{v:V}:R6 P rs raw ⟨tm,own::S1⟩ (p,v)=(p/\raw v own S1):=rfl
theorem DZ{f:FuncId}{fn:Func}{c:Code}{args:List V}{raw:V->List Obj->Store->Prop}{rs:List ResultVar}(eH:P.follows .mixedOrders=true)(hf:P.funcs[f]? =some fn)(hN:fn.ntmps=N)
 (hb:fn.body=some c) (hn:(fn.name== "runtime.NumGoroutine")=false) (hr:fn.results.toList=rs) (hl:Nat.ble args.length N=true) (hok:codeOk N c=true)
 (h:CW P N c (Nl P rs raw) ⟨lu (args.map (V.up 1)) 0,[]::S⟩):ng P f args S raw:=by
 subst hN;subst hr;exact GY hf hb hn (Nat.le_of_ble_eq_true hl) (gV eH c _ _ hok h)
theorem VA(T:List TypeId){f:FuncId}{fn:Func}{c:Code}{args:List V}{raw:V->List Obj->Store->Prop}{rs:List ResultVar}(eH:P.follows .mixedOrders=true)(hf:P.funcs[f]? =some fn)(hN:fn.ntmps=N)
 (hb:fn.body=some c) (hn:(fn.name== "runtime.NumGoroutine")=false) (hr:fn.results.toList=rs) (hl:Nat.ble args.length N=true) (hok:ou T N c=true)
 (h:mE P N T c (Nl P rs raw) ⟨lu (args.map (V.up 1)) 0,[]::S⟩):ng P f args S raw:=by
 subst hN;subst hr;exact GY hf hb hn (Nat.le_of_ble_eq_true hl) (nX eH c _ _ hok h)
theorem ng.mono{f:FuncId}{args:List V}{raw raw':V->List Obj->Store->Prop}(h:ng P f args S raw)(hi:∀r own S1,raw r own S1->raw' r own S1):ng P f args S raw':=
 ⟨h.1,fun w σ β vs hS hv=>(h.2 w σ β vs hS hv).mono fun e w' ⟨v,r,own,S1,bo,β1,σ',q1,q2,q3,q4,q5,q6⟩=>⟨v,r,own,S1,bo,β1,σ',q1,q2,q3,q4,q5,hi _ _ _ q6⟩⟩
end
def Df(own:List Obj)(x:C)(z:Nat)(es:List (List D)):Prop:=(∃m,own[m]? =some (.tok z es)/\x=.bV (0,m) es)\/(x=.bM es/\∀e∈es,e.length=z)
section
variable {w:World} {σ:Nat->Nat} {own fr:List Obj} {Ω:Store} {bo bf:List Value} {bΩ:Hs}
theorem uE{S1:Store}{β1:Hs}{x:C}{z:Nat}{es:List (List D)}{v:Value}(h:Df own x z es)(hr:iq w σ (own::S1) (bo::β1) x v):dM w σ (.sl es) v:=by
 rcases h with⟨m,h1,rfl⟩|⟨rfl,_⟩
 ·exact hr.1
 ·exact hr.1
theorem ET{S1:Store}{β1:Hs}{x:C}{z:Nat}{es:List (List D)}{v:Value}(hS:eG w σ (own::S1) (bo::β1))(h:Df own x z es)(hr:iq w σ (own::S1) (bo::β1) x v):
 (∀S' β',gJ w σ S' β' (.tok z es) v)/\∀b,owns (.tok z es) v b->∃m,own[m]? =some (.tok z es)/\x=.bV (0,m) es/\bo[m]? =some v:=by
 rcases h with⟨m,h1,rfl⟩|⟨rfl,h2⟩
 ·obtain⟨hd,o,ho,hl⟩:=hr;rw[bK,h1] at ho;cases ho;have hb:=(hl _ _ (.inl rfl)).2 rfl;obtain⟨hv,e1,e2⟩:=hS.obj (0,m) _ (by rw[bK];exact h1);rw[hb] at e1;cases e1;rw[bK] at hb;exact⟨fun _ _=>e2,fun b _=>⟨m,h1,rfl,hb⟩⟩
 ·obtain⟨hd,a,n,rfl⟩:=hr
  have hn:n=es.length:=by cases hd<;>rfl
  subst hn;refine⟨fun _ _=>⟨hd,h2,a,es.length,rfl,Nat.le_refl _,.inl rfl⟩,fun b hb=> ?_⟩
  cases a with
  |none=>cases hb
  |some a=>simp[owns,blk] at hb
end
def BG(cs:List C):Bool:=cs.all fun c=>match c with
 | .d _=>true
 |_=>false
theorem LQ{w:World}{σ:Nat->Nat}{S S':Store}{β β':Hs}{c:C}{v:Value}(h:(match c with
 | .d _=>true
 |_=>false)=true) (hr:iq w σ S β c v):iq w σ S' β' c v:=by
 cases c<;>first|exact hr|(cases h;done)
theorem Jr{w:World}{σ:Nat->Nat}{S S':Store}{β β':Hs}{pre post:List C}{x x':C}{a:List Value}(h1:BG pre=true)(h2:BG post=true)(hr:fO w σ S β (pre++x::post) a)
 (hx:∀v,a[pre.length]? =some v->iq w σ S β x v->iq w σ S' β' x' v):fO w σ S' β' (pre++x'::post) a:=by
 refine⟨by simpa using hr.1,fun j y hy=> ?_⟩;rcases Nat.lt_trichotomy j pre.length with hj|hj|hj
 ·rw[List.getElem?_append_left hj] at hy;obtain⟨v,e1,e2,e3⟩:=hr.2 j y (by rw[List.getElem?_append_left hj];exact hy);exact⟨v,e1,LQ (List.all_eq_true.1 h1 y (List.mem_of_getElem? hy)) e2,e3⟩
 ·subst hj;rw[List.getElem?_append_right (Nat.le_refl _),Nat.sub_self,List.getElem?_cons_zero] at hy;cases hy;obtain⟨v,e1,e2,e3⟩:=hr.2 pre.length x (by rw[List.getElem?_append_right (Nat.le_refl _),Nat.sub_self];rfl);exact⟨v,e1,hx v e1 e2,e3⟩
 ·rw[List.getElem?_append_right (by omega),show j-pre.length=(j-pre.length-1)+1 by omega,List.getElem?_cons_succ] at hy;obtain⟨v,e1,e2,e3⟩:=hr.2 j y (by rw[List.getElem?_append_right (by omega),show j-pre.length=(j-pre.length-1)+1 by omega,List.getElem?_cons_succ];exact hy);exact⟨v,e1,LQ (List.all_eq_true.1 h2 y (List.mem_of_getElem? hy)) e2,e3⟩
section
variable {P:Program} {S S':Store} {f:FuncId} {args:List V}
theorem ng.plain{pre post:List C}{z:Nat}{es:List (List D)}(h1:BG pre=true)(h2:BG post=true)(h:ng P f args S fun r own S1=>S1=S'/\∃x,r=.agg (pre++x::post)/\Df own x z es):
 bY P f args S fun r S1=>r=.agg (pre++ .d (.sl es)::post)/\S1=S':=by
 refine⟨h.1,fun w σ β vs hS hv=>(h.2 w σ β vs hS hv).mono fun e w' ⟨v,r,own,S1,bo,β1,σ',q1,q2,q3,q4,q5,q6,x,q7,q8⟩=> ?_⟩;subst q6 q7;obtain⟨a,rfl,hc⟩:=q5;exact⟨_,.agg (pre++ .d (.sl es)::post),S1,σ',β1,q1,q2.En,q3,⟨q4.size,q4.os,q4.output,q4.far,q4.near,fun b hb=>q4.own b (tV hb)⟩,⟨a,rfl,Jr h1 h2 hc fun v e1 e2=>uE q8 e2⟩,rfl,rfl⟩
theorem ng.push{pre post:List C}{z:Nat}{es:List (List D)}(h1:BG pre=true)(h2:BG post=true)(ht:zy S'=true)(h:ng P f args S fun r own S1=>S1=S'/\∃x,r=.agg (pre++x::post)/\Df own x z es):
 bY P f args S fun r S1=>r=.agg (pre++ .bV (0,xC S') es::post)/\S1=IU S' [.tok z es]:=by
 refine⟨h.1,fun w σ β vs hS hv=>(h.2 w σ β vs hS hv).mono fun e w' ⟨v,r,own,S1,bo,β1,σ',q1,q2,q3,q4,q5,q6,x,q7,q8⟩=> ?_⟩;subst q6 q7;obtain⟨a,rfl,hc⟩:=q5;obtain⟨u,e1,e2,e3⟩:=hc.2 pre.length x (by rw[List.getElem?_append_right (Nat.le_refl _),Nat.sub_self];rfl);obtain⟨k1,k2⟩:=ET q2 q8 e2
 cases S1 with
 |nil=>cases ht
 |cons fr Ω=>
 have hd:=q2.En
 obtain⟨bf,bΩ,rfl,hlen⟩:∃bf bΩ,β1=bf::bΩ/\bf.length=fr.length:=by
  cases β1 with
  |nil=>have:=hd.shape.1;simp at this
  |cons bf bΩ=>
   refine⟨bf,bΩ,rfl,?_⟩;obtain⟨gr,q1,q2⟩:=hd.shape.2 0 fr rfl;simp at q1;rw[q1];exact q2
 obtain⟨l1,l2,l3⟩:=hd.lay (o:=.tok z es) (h:=u) hlen (k1 _ _) fun b hb ⟨k,o,hh,f1,f2,f3⟩=>by
  obtain⟨m,g1,g2,g3⟩:=k2 b hb;have:=q2.apart (0,m) (k.1+1,k.2) _ o u hh b (by rw[bK];exact g1) (by rw[bK];exact g3) hb (by rw[bZ];exact f1) (by rw[bZ];exact f2) f3;cases this
 refine⟨_,.agg (pre++ .bV (0,xC (fr::Ω)) es::post),_,σ',_,q1,l1,q3.trans l2,⟨q4.size,q4.os,q4.output,q4.far,q4.near,fun b hb=> ?_⟩,⟨a,rfl,Jr h1 h2 hc fun v f1 f2=> ?_⟩,rfl,rfl⟩
 ·rcases l3 b hb with q|q
  ·exact q4.own b (tV q)
  ·obtain⟨m,g1,g2,g3⟩:=k2 b q;exact q4.own b ⟨(0,m),_,u,by rw[bK];exact g1,by rw[bK];exact g3,q⟩
 ·rw[e1] at f1;cases f1;refine⟨uE q8 e2,_,by rw[mP];exact dB _ _ _,fun bB es' e=> ?_⟩;obtain⟨_,rfl⟩:=qp (lab:=none) e;exact⟨Nat.le_refl _,fun _=>by rw[mP,<-hlen,dB]⟩
end
attribute [go_sem ↓] aeC UA
attribute [go_sem] ahd Al mP Uz Yn aeB
def nQ(s:List UInt8):ay:=.mk 1 s []
def nR(s:List UInt8)(l:List ay):ay:=.mk 2 s l
def Cr(s:List UInt8)(t:ay):ay:=.mk 3 s [t]
def aeD(s:List UInt8):ay:=.mk 4 s []
def EU:List (List UInt8):=[[105,110,116],[98,111,111,108],[117,110,105,116]]
def Ct:List (List UInt8):=[[108,105,115,116],[108,105,115,116],[98,111,120]]
def kH{bs:List Int}(vars:List (List UInt8)):Nat->Cu bs->ay×Cu bs
 |0,c=>if(aT 8 c).1<3/\0<vars.length then(nQ (bR vars (aT 8 c).2).1,(bR vars (aT 8 c).2).2)
  else(nR (bR EU (aT 8 c).2).1 [],(bR EU (aT 8 c).2).2)
 |n+1,c=>if(aT 8 c).1<3/\0<vars.length then(nQ (bR vars (aT 8 c).2).1,(bR vars (aT 8 c).2).2)
  else if(aT 8 c).1<5 then(nR (bR EU (aT 8 c).2).1 [],(bR EU (aT 8 c).2).2)
  else if(aT 8 c).1=5 then(nR [112,97,105,114] [(kH vars n (aT 8 c).2).1,(kH vars n (kH vars n (aT 8 c).2).2).1],(kH vars n (kH vars n (aT 8 c).2).2).2)
  else(nR (bR Ct (aT 8 c).2).1 [(kH vars n (bR Ct (aT 8 c).2).2).1],(kH vars n (bR Ct (aT 8 c).2).2).2)
def eY(l:List (List UInt8)):Prop:=∀s∈l,s.length<=8
theorem gN{bs:List Int}{xs:List (List UInt8)}(c:Cu bs)(h:eY xs):(bR xs c).1.length<=8:=by
 by_cases h1:1<=xs.length
 ·exact h _ (zk c h1)
 ·have:xs=[]:=List.eq_nil_of_length_eq_zero (by omega);subst this;simp[bR]
theorem LU:eY EU:=by unfold eY;decide
theorem short_list:eY Ct:=by unfold eY;decide
theorem nJ(s:List UInt8):(nQ s).sz=s.length:=by simp[nQ,ay.sz,ay.aj,bG,D.sz,aQ,ay.fName,ay.fArgs]
theorem D5(s:List UInt8):(nR s []).sz=s.length:=by simp[nR,ay.sz,ay.aj,bG,D.sz,aQ,ay.fName,ay.fArgs]
theorem D6(s:List UInt8)(t:ay):(nR s [t]).sz=s.length+1+t.sz:=by
 have:=ay.cK t;simp only[nR,ay.sz,ay.aj,bG,D.sz,aQ,ay.fName,ay.fArgs,List.map_cons,List.map_nil,List.length_cons,List.length_nil] at this ⊢;omega
theorem VB(s:List UInt8)(t u:ay):(nR s [t,u]).sz=s.length+2+t.sz+u.sz:=by
 have h1:=ay.cK t;have h2:=ay.cK u;simp only[nR,ay.sz,ay.aj,bG,D.sz,aQ,ay.fName,ay.fArgs,List.map_cons,List.map_nil,List.length_cons,List.length_nil] at h1 h2 ⊢;omega
theorem GZ{bs:List Int}{vars:List (List UInt8)}(hv:eY vars):∀(n:Nat)(c:Cu bs),(kH vars n c).1.sz+10<=18*2^n
 |0,c=>by
  rw[kH];split
  ·have:=gN (aT 8 c).2 hv;simp only[nJ];omega
  ·have:=gN (aT 8 c).2 LU;simp only[D5];omega
 |n+1,c=>by
  have ih:=GZ hv n (bs:=bs)
  have hp:2^ (n+1)=2^n+2^n:=by rw[Nat.pow_succ];omega
  have h2:=Nat.one_le_two_pow (n:=n);rw[kH];split
  ·have:=gN (aT 8 c).2 hv;simp only[nJ];omega
  split
  ·have:=gN (aT 8 c).2 LU;simp only[D5];omega
  split
  ·have h3:=ih (aT 8 c).2;have h4:=ih (kH vars n (aT 8 c).2).2;simp only[VB,List.length_cons,List.length_nil];omega
  ·have h3:=ih (bR Ct (aT 8 c).2).2;have:=gN (aT 8 c).2 short_list;simp only[D6];omega
def tyP(t:ay):List C:=[.d (.i .i64 t.aV),.d (.s t.fName)]
theorem OD(t:ay):BG (tyP t)=true:=rfl
def LV(t:ay)(S':Store)(r:V)(own:List Obj)(S1:Store):Prop:=S1=S'/\∃x,r=.agg (tyP t++x::[])/\Df own x 3 (t.fArgs.map ay.enc)
theorem R7(l:List ay):∀y∈l.map ay.enc,y.length=3:=by
 intro y hy;obtain⟨x,_,rfl⟩:=List.mem_map.1 hy;rw[ay.aj];rfl
theorem fT(s:List UInt8):aX prog 141 [.c (.d (.s s))] (.agg [.d (.i .i64 1),.d (.s s),.bM []]):=fun S=>by
 refine zcx [.cell 2 41] func141 ntmps141 ?_;simp -implicitDefEqProofs (disch:=omega) only[go_sem]
 first|done|exact⟨rfl,rfl⟩|rfl
theorem OE(s:List UInt8)(l:List ay){es:List (List D)}(he:es=l.map ay.enc)(hl:l.length<=1048576){a:C}(ha:a=.d (.sl es)\/a=.bM es)(S:Store):ng prog 94 [.c (.d (.s s)),.c a] S (LV (nR s l) S):=by
 subst he;refine DZ (rs:=[.cell 4 41]) zmx func94 ntmps94 rfl rfl rfl rfl rfl ?_;have hln:=R7 l;rcases ha with rfl|rfl
 all_goals
  simp -implicitDefEqProofs (disch:=omega) only[go_sem];refine⟨hln,⟨_,rfl,rfl⟩,fun y hy=>absurd hy List.not_mem_nil,by omega,rfl,_,rfl,.inl ⟨1,rfl,rfl⟩⟩
theorem sS{f:FuncId}{args:List V}{S S':Store}{t:ay}(h:ng prog f args S (LV t S')):bY prog f args S (fun r S1=>r=.agg [.d (.i .i64 t.aV),.d (.s t.fName),.d (.sl (t.fArgs.map ay.enc))]/\S1=S'):=
 ng.plain (OD t) rfl h
theorem EW{f:FuncId}{args:List V}{S S':Store}{t:ay}(ht:zy S'=true)(h:ng prog f args S (LV t S')):
 bY prog f args S (fun r S1=>r=.agg [.d (.i .i64 t.aV),.d (.s t.fName),.bV (0,xC S') (t.fArgs.map ay.enc)]/\S1=IU S' [.tok 3 (t.fArgs.map ay.enc)]):=
 ng.push (OD t) rfl ht h
theorem xD(s:List UInt8)(l:List ay){es:List (List D)}(he:es=l.map ay.enc)(hl:l.length<=1048576){a:C}(ha:a=.d (.sl es)\/a=.bM es){own:List Ab.Obj}{Ω:Store}:
 bY prog 94 [.c (.d (.s s)),.c a] (own::Ω) (fun r S1=>r=.agg [.d (.i .i64 2),.d (.s s),.bV (0,own.length) es]/\S1=(own++[.tok 3 es])::Ω):=by
 have:=EW (S':=own::Ω) rfl (OE s l he hl ha (own::Ω));rw[he];exact this
theorem rU(s:List UInt8)(l:List ay){es:List (List D)}(he:es=l.map ay.enc)(hl:l.length<=1048576){a:C}(ha:a=.d (.sl es)\/a=.bM es):aX prog 94 [.c (.d (.s s)),.c a] (.agg [.d (.i .i64 2),.d (.s s),.d (.sl es)]):=fun S=>by
 have:=sS (OE s l he hl ha S);rw[he];exact this
theorem R8{bs:List Int}{xs:List (List UInt8)}(c:Cu bs)(hi:(aT (xs.length:Int) c).1.toNat<xs.length):xs[(aT (xs.length:Int) c).1.toNat]=(bR xs c).1:=by
 simp only[bR,List.getD,List.getElem?_eq_getElem hi,Option.getD_some]
theorem EX{bs:List Int}(hB:Bytes bs){vars:List (List UInt8)}(hv:vars.length<=256):∀(n:Nat)(c:Cu bs)(l j:Nat)(S:Store),bn S (l,j)=some (.box (cur c))->n<=1048576->
 ng prog 132 [.c (.ptr (l,j) 0),.c (.d (.sl (vars.map encS))),.c (.d (.i .i64 n))] S (LV (kH vars n c).1 (aY S (l,j) (.box (cur (kH vars n c).2)))):=by
 intro n
 induction n with
 |zero=>
  intro c l j S hk hn;have g:∀x:Ab.Obj,bn (aY S (l,j) x) (l,j)=some x:=fun x=>cO _ _ _ _ hk;obtain⟨k,hkd⟩:∃k,k=(aT 8 c).1:=⟨_,rfl⟩;obtain⟨c1,hc1⟩:∃c1,c1=(aT 8 c).2:=⟨_,rfl⟩;rw[kH,<-hkd,<-hc1];refine DZ (rs:=[.cell 6 41]) zmx func132 ntmps132 rfl rfl rfl rfl rfl ?_;simp -implicitDefEqProofs (disch:=omega) only[go_sem];refine aW rfl (dR hB c (1+l) j _ 8 (by rw[aH];exact hk) (by omega) (by omega)) ?_;rw[<-hkd,<-hc1];have d0:decide (((0:Nat):Int)<=0)=true:=rfl;simp -implicitDefEqProofs (disch:=omega) only[go_sem,ak]
  with_reducible refine aC (fun hb=> ?_) (fun hb=> ?_)<;>have h:=hb<;>(try simp only[wf_preprocess] at h)<;>simp -implicitDefEqProofs (disch:=omega) only[go_sem,hb,d0,ak]<;>(repeat(with_reducible refine And.intro ?_ ?_;focus first|omega|rfl|assumption|exact⟨_,rfl,rfl⟩|(simp;omega)|(simp;done)))
  rotate_left
  rw[if_neg (by omega)]
  rotate_left
  with_reducible refine aC (fun hb=> ?_) (fun hb=> ?_)<;>have h:=hb<;>(try simp only[wf_preprocess] at h)<;>simp -implicitDefEqProofs (disch:=omega) only[go_sem,hb,d0,ak]<;>(repeat(with_reducible refine And.intro ?_ ?_;focus first|omega|rfl|assumption|exact⟨_,rfl,rfl⟩|(simp;omega)|(simp;done)))
  ·have hx:=gK (n:=vars.length) c1 (by omega)
   have hi:(aT (vars.length:Int) c1).1.toNat<vars.length:=by omega
   rw[if_pos ⟨by omega,by omega⟩];refine aW rfl (dR hB c1 (1+l) j _ vars.length (by rw[aH];exact g _) (by omega) (by omega)) ?_;simp -implicitDefEqProofs (disch:=omega) only[go_sem,ak,ah,encS]
   (repeat(with_reducible refine And.intro ?_ ?_;focus first|omega|rfl|assumption|exact⟨_,rfl,rfl⟩|(simp;omega)|(simp;done)))
   rw[R8 c1 hi];refine aB (fT (bR vars c1).1) ?_;simp -implicitDefEqProofs (disch:=omega) only[go_sem]<;>(repeat(with_reducible refine And.intro ?_ ?_;focus first|omega|rfl|assumption|exact⟨_,rfl,rfl⟩|(simp;omega)|(simp;done)));exact⟨rfl,_,rfl,.inr ⟨rfl,fun e he=>by cases he⟩⟩
  rw[if_neg (by omega)]
  all_goals with_reducible refine aC (fun hb=> ?_) (fun hb=> ?_)<;>have h:=hb<;>(try simp only[wf_preprocess] at h)<;>simp -implicitDefEqProofs (disch:=omega) only[go_sem,hb,d0,ak]<;>(repeat(with_reducible refine And.intro ?_ ?_;focus first|omega|rfl|assumption|exact⟨_,rfl,rfl⟩|(simp;omega)|(simp;done)))
  all_goals
   refine cu [true] rfl (dS hB c1 (1+l) j _ EU (by rw[aH];exact g _) (by decide) (by decide)) ?_;simp -implicitDefEqProofs (disch:=omega) only[go_sem,ak,ah];refine aW rfl (xD _ [] rfl (Nat.zero_le _) (.inr rfl)) ?_;simp -implicitDefEqProofs (disch:=omega) only[go_sem,ak,ah];exact⟨rfl,_,rfl,.inl ⟨1,rfl,rfl⟩⟩
 |succ n ih=>
  intro c l j S hk hn;have g:∀x:Ab.Obj,bn (aY S (l,j) x) (l,j)=some x:=fun x=>cO _ _ _ _ hk;obtain⟨k,hkd⟩:∃k,k=(aT 8 c).1:=⟨_,rfl⟩;obtain⟨c1,hc1⟩:∃c1,c1=(aT 8 c).2:=⟨_,rfl⟩;have ih1:=fun c l j S hk=>sS (ih c l j S hk (by omega));rw[kH,<-hkd,<-hc1];refine DZ (rs:=[.cell 6 41]) zmx func132 ntmps132 rfl rfl rfl rfl rfl ?_;simp -implicitDefEqProofs (disch:=omega) only[go_sem];refine aW rfl (dR hB c (1+l) j _ 8 (by rw[aH];exact hk) (by omega) (by omega)) ?_;rw[<-hkd,<-hc1];have d0:decide (((n+1:Nat):Int)<=0)=false:=decide_eq_false (by omega)
  have d1:((n+1:Nat):Int)-1=(n:Int):=by omega
  simp -implicitDefEqProofs (disch:=omega) only[go_sem,ak]
  with_reducible refine aC (fun hb=> ?_) (fun hb=> ?_)<;>have h:=hb<;>(try simp only[wf_preprocess] at h)<;>simp -implicitDefEqProofs (disch:=omega) only[go_sem,hb,d0,ak]<;>(repeat(with_reducible refine And.intro ?_ ?_;focus first|omega|rfl|assumption|exact⟨_,rfl,rfl⟩|(simp;omega)|(simp;done)))
  rotate_left
  rw[if_neg (by omega)]
  rotate_left
  with_reducible refine aC (fun hb=> ?_) (fun hb=> ?_)<;>have h:=hb<;>(try simp only[wf_preprocess] at h)<;>simp -implicitDefEqProofs (disch:=omega) only[go_sem,hb,d0,ak]<;>(repeat(with_reducible refine And.intro ?_ ?_;focus first|omega|rfl|assumption|exact⟨_,rfl,rfl⟩|(simp;omega)|(simp;done)))
  ·have hx:=gK (n:=vars.length) c1 (by omega)
   have hi:(aT (vars.length:Int) c1).1.toNat<vars.length:=by omega
   rw[if_pos ⟨by omega,by omega⟩];refine aW rfl (dR hB c1 (1+l) j _ vars.length (by rw[aH];exact g _) (by omega) (by omega)) ?_;simp -implicitDefEqProofs (disch:=omega) only[go_sem,ak,ah,encS]
   (repeat(with_reducible refine And.intro ?_ ?_;focus first|omega|rfl|assumption|exact⟨_,rfl,rfl⟩|(simp;omega)|(simp;done)))
   rw[R8 c1 hi];refine aB (fT (bR vars c1).1) ?_;simp -implicitDefEqProofs (disch:=omega) only[go_sem]<;>(repeat(with_reducible refine And.intro ?_ ?_;focus first|omega|rfl|assumption|exact⟨_,rfl,rfl⟩|(simp;omega)|(simp;done)));exact⟨rfl,_,rfl,.inr ⟨rfl,fun e he=>by cases he⟩⟩
  rw[if_neg (by omega)]
  all_goals
   with_reducible refine aC (fun hb=> ?_) (fun hb=> ?_)<;>have h:=hb<;>(try simp only[wf_preprocess] at h)<;>simp -implicitDefEqProofs (disch:=omega) only[go_sem,hb,d0,ak]<;>(repeat(with_reducible refine And.intro ?_ ?_;focus first|omega|rfl|assumption|exact⟨_,rfl,rfl⟩|(simp;omega)|(simp;done)))
   ·rw[if_pos (by omega)];refine cu [true] rfl (dS hB c1 (1+l) j _ EU (by rw[aH];exact g _) (by decide) (by decide)) ?_;simp -implicitDefEqProofs (disch:=omega) only[go_sem,ak,ah];refine aW rfl (xD _ [] rfl (Nat.zero_le _) (.inr rfl)) ?_;simp -implicitDefEqProofs (disch:=omega) only[go_sem,ak,ah];exact⟨rfl,_,rfl,.inl ⟨1,rfl,rfl⟩⟩
   rw[if_neg (by omega)]
   with_reducible refine aC (fun hb=> ?_) (fun hb=> ?_)<;>have h:=hb<;>(try simp only[wf_preprocess] at h)<;>simp -implicitDefEqProofs (disch:=omega) only[go_sem,hb,d1,ak]<;>(repeat(with_reducible refine And.intro ?_ ?_;focus first|omega|rfl|assumption|exact⟨_,rfl,rfl⟩|(simp;omega)|(simp;done)))
   ·rw[if_pos (by omega)];refine aW rfl (ih1 c1 (1+l) j _ (by rw[aH];exact g _)) ?_;simp -implicitDefEqProofs (disch:=omega) only[go_sem,d1,ak,ah];refine aW rfl (ih1 (kH vars n c1).2 (1+l) j _ (by rw[aH];exact g _)) ?_;simp -implicitDefEqProofs (disch:=omega) only[go_sem,ak,ah]
    (repeat(with_reducible refine And.intro ?_ ?_;focus first|omega|rfl|assumption|exact⟨_,rfl,rfl⟩|(simp;omega)|(simp;done)))
    refine aW rfl (xD _ [(kH vars n c1).1,(kH vars n (kH vars n c1).2).1] (by simp only[List.map_cons,List.map_nil,ay.aj]) (by simp) (.inr rfl)) ?_;simp -implicitDefEqProofs (disch:=omega) only[go_sem,ak,ah];refine⟨rfl,_,rfl,.inl ⟨1,?_,?_⟩⟩<;>simp only[nR,ay.fArgs,List.map_cons,List.map_nil,ay.aj]<;>rfl
   ·rw[if_neg (by omega)];refine cu [true] rfl (dS hB c1 (1+l) j _ Ct (by rw[aH];exact g _) (by decide) (by decide)) ?_;simp -implicitDefEqProofs (disch:=omega) only[go_sem,d1,ak,ah];refine aW rfl (ih1 (bR Ct c1).2 (1+l) j _ (by rw[aH];exact g _)) ?_;simp -implicitDefEqProofs (disch:=omega) only[go_sem,ak,ah]
    (repeat(with_reducible refine And.intro ?_ ?_;focus first|omega|rfl|assumption|exact⟨_,rfl,rfl⟩|(simp;omega)|(simp;done)))
    refine aW rfl (xD _ [(kH vars n (bR Ct c1).2).1] (by simp only[List.map_cons,List.map_nil,ay.aj]) (by simp) (.inr rfl)) ?_;simp -implicitDefEqProofs (disch:=omega) only[go_sem,ak,ah];refine⟨rfl,_,rfl,.inl ⟨1,?_,?_⟩⟩<;>simp only[nR,ay.fArgs,List.map_cons,List.map_nil,ay.aj]<;>rfl
def FM:List (List UInt8):=[[97],[98]]
def G5:List (List UInt8):=[[97,100,100],[115,104,111,119]]
theorem J7:eY FM:=by unfold eY;decide
theorem UC:eY G5:=by unfold eY;decide
def Yo{bs:List Int}(t:ay)(c:Cu bs):ay×Cu bs:=
 if(aT 8 c).1=0 then(Cr (bR G5 (aT 8 c).2).1 t,(bR G5 (aT 8 c).2).2) else
 if(aT 8 c).1=1 then(nR [108,105,115,116] [Cr [97,100,100] t],(aT 8 c).2) else
 if(aT 8 c).1=2 then(aeD [115,104,111,119],(aT 8 c).2) else(t,(aT 8 c).2)
def kT{bs:List Int}(n:Nat)(c:Cu bs):ay×Cu bs:=Yo (kH FM n c).1 (kH FM n c).2
def LW:List (List UInt8):=[[],[105,110,116],[65],[97,115,115,111,99],[97,98,99,100,101,102,103,104,105]]
def nS:ay:=nR [105,110,116] []
def boolT:ay:=nR [98,111,111,108] []
def Cv:Nat->ay->ay
 |0,t=>t
 |n+1,t=>Cv n (nR [108,105,115,116] [t])
def Yp{bs:List Int}(t:ay)(c:Cu bs):ay×Cu bs:=
 if(aT 12 c).1=0 then(.mk ((aT 7 (aT 12 c).2).1-1) t.fName t.fArgs,(aT 7 (aT 12 c).2).2) else
 if(aT 12 c).1=1 then(.mk t.aV (bR LW (aT 12 c).2).1 t.fArgs,(bR LW (aT 12 c).2).2) else
 if(aT 12 c).1=2 then(.mk t.aV t.fName (t.fArgs++[nS,boolT,nS]),(aT 12 c).2) else
 if(aT 12 c).1=3 then(Cv 6 t,(aT 12 c).2) else(t,(aT 12 c).2)
def Am{bs:List Int}(c:Cu bs):ay×Cu bs:=Yp (kT 3 c).1 (kT 3 c).2
theorem VD(s:List UInt8)(t:ay):(Cr s t).sz=s.length+1+t.sz:=by
 have:=ay.cK t;simp only[Cr,ay.sz,ay.aj,bG,D.sz,aQ,ay.fName,ay.fArgs,List.map_cons,List.map_nil,List.length_cons,List.length_nil] at this ⊢;omega
theorem ajd(s:List UInt8):(aeD s).sz=s.length:=by simp[aeD,ay.sz,ay.aj,bG,D.sz,aQ,ay.fName,ay.fArgs]
theorem vP{bs:List Int}(n:Nat)(c:Cu bs):(kT n c).1.sz<=18*2^n+10:=by
 have h:=GZ J7 n c;unfold kT Yo;split
 ·have:=gN (aT 8 (kH FM n c).2).2 UC;simp only[VD];omega
 split
 ·simp only[D6,VD,List.length_cons,List.length_nil];omega
 split
 ·simp only[ajd,List.length_cons,List.length_nil];omega
 ·show(kH FM n c).1.sz<=_;omega
theorem OG(s:List UInt8)(t:ay)(h:t.sz<=4194304):aX prog 133 [.c (.d (.s s)),t.v] (.agg [.d (.i .i64 3),.d (.s s),.bM ([t].map ay.enc)]):=fun S=>by
 refine zcx [.cell 4 41] func133 ntmps133 ?_;simp -implicitDefEqProofs (disch:=omega) only[go_sem];refine aB (aa4 t h) ?_;simp -implicitDefEqProofs (disch:=omega) only[go_sem]<;>(repeat(with_reducible refine And.intro ?_ ?_;focus first|omega|rfl|assumption|exact⟨_,rfl,rfl⟩|(simp;omega)|(simp;done)))
theorem iT:aX prog 92 [] nS.v:=fun S=>by
 refine zcx [.cell 0 41] func92 ntmps92 ?_;simp -implicitDefEqProofs (disch:=omega) only[go_sem];refine aB (rU [105,110,116] [] rfl (Nat.zero_le _) (.inl rfl)) ?_;simp -implicitDefEqProofs (disch:=omega) only[go_sem]
 first|done|exact⟨rfl,rfl⟩|rfl
theorem LX{bs:List Int}(hB:Bytes bs)(n:Nat)(c:Cu bs)(l j:Nat)(S:Store)(hk:bn S (l,j)=some (.box (cur c)))(hn:n<=16):
 ng prog 91 [.c (.ptr (l,j) 0),.c (.d (.i .i64 n))] S (LV (kT n c).1 (aY S (l,j) (.box (cur (kT n c).2)))):=by
 have g:∀x:Ab.Obj,bn (aY S (l,j) x) (l,j)=some x:=fun x=>cO _ _ _ _ hk;unfold kT;obtain⟨t,ht⟩:∃t,t=(kH FM n c).1:=⟨_,rfl⟩;obtain⟨c1,hc1⟩:∃c1,c1=(kH FM n c).2:=⟨_,rfl⟩
 have hsz:t.sz<=4194304:=by
  have:=GZ J7 n c;have h2:2^n<=2^16:=Nat.pow_le_pow_right (by omega) hn;rw[ht];omega
 rw[<-ht,<-hc1];unfold Yo;obtain⟨k,hkd⟩:∃k,k=(aT 8 c1).1:=⟨_,rfl⟩;obtain⟨c2,hc2⟩:∃c2,c2=(aT 8 c1).2:=⟨_,rfl⟩;rw[<-hkd,<-hc2];refine VA [67] (rs:=[.cell 4 41]) zmx func91 ntmps91 rfl rfl rfl rfl rfl ?_;simp -implicitDefEqProofs (disch:=omega) only[go_sem]
 have h1:=EW (S':=[.box [.d (.i .i64 0),.d (.s []),.bM []]]::aY S (l,j) (.box (cur (kH FM n c).2))) rfl (by
  have:=EX hB (vars:=FM) (by decide) n c (1+l) j ([.box [.d (.i .i64 0),.d (.s []),.bM []]]::S) (by rw[aH];exact hk) (by omega);rw[ak] at this
  exact this)
 rw[<-ht,<-hc1] at h1;refine cu [true] rfl h1 ?_;simp -implicitDefEqProofs (disch:=omega) only[go_sem,ak];refine aW rfl (dR hB c1 (1+l) j _ 8 (by rw[aH];exact g _) (by omega) (by omega)) ?_;rw[<-hkd,<-hc2];simp -implicitDefEqProofs (disch:=omega) only[go_sem,ak,ah]
 with_reducible refine aC (fun hb=> ?_) (fun hb=> ?_)<;>have h:=hb<;>(try simp only[wf_preprocess] at h)<;>simp -implicitDefEqProofs (disch:=omega) only[go_sem,hb,ak,ah]<;>(repeat(with_reducible refine And.intro ?_ ?_;focus first|omega|rfl|assumption|exact⟨_,rfl,rfl⟩|(simp;omega)|(simp;done)))
 ·rw[if_pos h];refine cu [true] rfl (dS hB c2 (1+l) j _ G5 (by rw[aH];exact g _) (by decide) (by decide)) ?_;simp -implicitDefEqProofs (disch:=omega) only[go_sem,ak,ah];refine aB (OG (bR G5 c2).1 t hsz) ?_;simp -implicitDefEqProofs (disch:=omega) only[go_sem,ak,ah];refine⟨by cases l<;>rfl,?_⟩;simp -implicitDefEqProofs (disch:=omega) only[go_sem,ak,ah];exact⟨rfl,_,rfl,.inr ⟨by simp[Cr,ay.fArgs,ay.aj],R7 [t]⟩⟩
 rw[if_neg h]
 with_reducible refine aC (fun hb=> ?_) (fun hb=> ?_)<;>have h:=hb<;>(try simp only[wf_preprocess] at h)<;>simp -implicitDefEqProofs (disch:=omega) only[go_sem,hb,ak,ah]<;>(repeat(with_reducible refine And.intro ?_ ?_;focus first|omega|rfl|assumption|exact⟨_,rfl,rfl⟩|(simp;omega)|(simp;done)))
 ·rw[if_pos h];refine aB (OG [97,100,100] t hsz) ?_;simp -implicitDefEqProofs (disch:=omega) only[go_sem,ak,ah]
  (repeat(with_reducible refine And.intro ?_ ?_;focus first|omega|rfl|assumption|exact⟨_,rfl,rfl⟩|(simp;omega)|(simp;done)))
  refine aW rfl (xD _ [Cr [97,100,100] t] (by simp[Cr,ay.aj,ay.aV,ay.fName,ay.fArgs]) (by simp) (.inr rfl)) ?_;simp -implicitDefEqProofs (disch:=omega) only[go_sem,ak,ah];refine⟨rfl,_,rfl,.inl ⟨3,?_,?_⟩⟩<;>simp[nR,Cr,ay.aj,ay.aV,ay.fName,ay.fArgs]
 rw[if_neg h]
 with_reducible refine aC (fun hb=> ?_) (fun hb=> ?_)<;>have h:=hb<;>(try simp only[wf_preprocess] at h)<;>simp -implicitDefEqProofs (disch:=omega) only[go_sem,hb,ak,ah]<;>(repeat(with_reducible refine And.intro ?_ ?_;focus first|omega|rfl|assumption|exact⟨_,rfl,rfl⟩|(simp;omega)|(simp;done)))
 ·rw[if_pos h];exact⟨rfl,_,rfl,.inr ⟨rfl,fun e he=>by cases he⟩⟩
 rw[if_neg h];exact⟨rfl,_,rfl,.inl ⟨1,rfl,rfl⟩⟩
theorem iF{bs:List Int}(hB:Bytes bs)(n:Nat)(c:Cu bs)(l j:Nat)(S:Store)(hk:bn S (l,j)=some (.box (cur c)))(hn:n<=16):
 bY prog 91 [.c (.ptr (l,j) 0),.c (.d (.i .i64 n))] S (fun r S1=>r=(kT n c).1.v/\S1=aY S (l,j) (.box (cur (kT n c).2))):=
 sS (LX hB n c l j S hk hn)
theorem abd:aX prog 93 [] boolT.v:=fun S=>by
 refine zcx [.cell 0 41] func93 ntmps93 ?_;simp -implicitDefEqProofs (disch:=omega) only[go_sem];refine aB (rU [98,111,111,108] [] rfl (Nat.zero_le _) (.inl rfl)) ?_;simp -implicitDefEqProofs (disch:=omega) only[go_sem]
 first|done|exact⟨rfl,rfl⟩|rfl
theorem abe{bs:List Int}(hB:Bytes bs)(c:Cu bs)(l j:Nat)(S:Store)(hk:bn S (l,j)=some (.box (cur c))):
 bY prog 58 [.c (.ptr (l,j) 0)] S (fun r S1=>r=(Am c).1.v/\S1=aY S (l,j) (.box (cur (Am c).2))):=by
 have g:∀x:Ab.Obj,bn (aY S (l,j) x) (l,j)=some x:=fun x=>cO _ _ _ _ hk;unfold Am;obtain⟨t,ht⟩:∃t,t=(kT 3 c).1:=⟨_,rfl⟩;obtain⟨c1,hc1⟩:∃c1,c1=(kT 3 c).2:=⟨_,rfl⟩;have hsz:=vP 3 c;rw[<-ht] at hsz;rw[<-ht,<-hc1];unfold Yp;obtain⟨k,hkd⟩:∃k,k=(aT 12 c1).1:=⟨_,rfl⟩;obtain⟨c2,hc2⟩:∃c2,c2=(aT 12 c1).2:=⟨_,rfl⟩;rw[<-hkd,<-hc2]
 have hsl:t.fArgs.length<=1048576:=by
  simp only[ay.sz,ay.aj,bG,D.sz,List.length_map] at hsz;omega
 refine nY [67] (rs:=[.cell 2 41]) zmx func58 ntmps58 rfl rfl rfl rfl rfl ?_;simp -implicitDefEqProofs (disch:=omega) only[go_sem]
 have h1:=EW (S':=[.box [.d (.i .i64 0),.d (.s []),.bM []]]::aY S (l,j) (.box (cur (kT 3 c).2))) rfl (by
  have:=LX hB 3 c (1+l) j ([.box [.d (.i .i64 0),.d (.s []),.bM []]]::S) (by rw[aH];exact hk) (by omega);rw[ak] at this
  exact this)
 rw[<-ht,<-hc1] at h1;refine aW rfl h1 ?_;simp -implicitDefEqProofs (disch:=omega) only[go_sem,ak];refine aW rfl (dR hB c1 (1+l) j _ 12 (by rw[aH];exact g _) (by omega) (by omega)) ?_;rw[<-hkd,<-hc2];simp -implicitDefEqProofs (disch:=omega) only[go_sem,ak,ah]
 with_reducible refine aC (fun hb=> ?_) (fun hb=> ?_)<;>have h:=hb<;>(try simp only[wf_preprocess] at h)<;>simp -implicitDefEqProofs (disch:=omega) only[go_sem,hb,ak,ah]<;>(repeat(with_reducible refine And.intro ?_ ?_;focus first|omega|rfl|assumption|exact⟨_,rfl,rfl⟩|(simp;omega)|(simp;done)))
 ·rw[if_pos h];have hx:=gK (n:=7) c2 (by omega);refine aW rfl (dR hB c2 (1+l) j _ 7 (by rw[aH];exact g _) (by omega) (by omega)) ?_;simp -implicitDefEqProofs (disch:=omega) only[go_sem,ak,ah];rfl
 rw[if_neg h]
 with_reducible refine aC (fun hb=> ?_) (fun hb=> ?_)<;>have h:=hb<;>(try simp only[wf_preprocess] at h)<;>simp -implicitDefEqProofs (disch:=omega) only[go_sem,hb,ak,ah]<;>(repeat(with_reducible refine And.intro ?_ ?_;focus first|omega|rfl|assumption|exact⟨_,rfl,rfl⟩|(simp;omega)|(simp;done)))
 ·rw[if_pos h];refine cu [true] rfl (dS hB c2 (1+l) j _ LW (by rw[aH];exact g _) (by decide) (by decide)) ?_;simp -implicitDefEqProofs (disch:=omega) only[go_sem,ak,ah];rfl
 rw[if_neg h]
 with_reducible refine aC (fun hb=> ?_) (fun hb=> ?_)<;>have h:=hb<;>(try simp only[wf_preprocess] at h)<;>simp -implicitDefEqProofs (disch:=omega) only[go_sem,hb,ak,ah]<;>(repeat(with_reducible refine And.intro ?_ ?_;focus first|omega|rfl|assumption|exact⟨_,rfl,rfl⟩|(simp;omega)|(simp;done)))
 ·rw[if_pos h];refine aB iT ?_;simp -implicitDefEqProofs (disch:=omega) only[go_sem,ak,ah];refine aB abd ?_;simp -implicitDefEqProofs (disch:=omega) only[go_sem,ak,ah];refine aB iT ?_;simp -implicitDefEqProofs (disch:=omega) only[go_sem,ak,ah]
  (repeat(with_reducible refine And.intro ?_ ?_;focus first|omega|rfl|assumption|exact⟨_,rfl,rfl⟩|(simp;omega)|(simp;done)))
  refine⟨by cases l<;>rfl,?_⟩;simp -implicitDefEqProofs (disch:=omega) only[go_sem,ak,ah];cases t;simp[nS,boolT,nR,ay.aV,ay.fName,ay.fArgs,ay.aj]
 rw[if_neg h]
 with_reducible refine aC (fun hb=> ?_) (fun hb=> ?_)<;>have h:=hb<;>(try simp only[wf_preprocess] at h)<;>simp -implicitDefEqProofs (disch:=omega) only[go_sem,hb,ak,ah]<;>(repeat(with_reducible refine And.intro ?_ ?_;focus first|omega|rfl|assumption|exact⟨_,rfl,rfl⟩|(simp;omega)|(simp;done)))
 ·rw[if_pos h]
  refine bN (ι:=Nat×ay×C) zmx rfl [2,3,4] (fun x=>[.c (.ptr (0,0) 0),.c (.ptr (0,2) 0),.c (.d (.i .i64 x.1))])
   (fun x=>[.box [.d (.i .i64 0),.d (.s []),.bM []],.tok 3 (t.fArgs.map ay.enc),.box [.d (.i .i64 x.2.1.aV),.d (.s x.2.1.fName),x.2.2]]::aY S (l,j) (.box (cur c2)))
   (fun x=>x.1<=6/\Cv (6-x.1) x.2.1=Cv 6 t/\(x.2.2=.d (.sl (x.2.1.fArgs.map ay.enc))\/x.2.2=.bV (0,1) (x.2.1.fArgs.map ay.enc))) (fun x=>6-x.1) (0,t,.bV (0,1) (t.fArgs.map ay.enc)) rfl rfl ⟨by simp,rfl,.inr rfl⟩ ?_
  rintro⟨i,u,x⟩ ⟨p1,p2,p3⟩;simp only at p1 p2 p3;simp -implicitDefEqProofs (disch:=omega) only[go_sem]
  with_reducible refine aC (fun hb=> ?_) (fun hb=> ?_)<;>have h:=hb<;>(try simp only[wf_preprocess] at h)<;>simp -implicitDefEqProofs (disch:=omega) only[go_sem,hb]<;>(repeat(with_reducible refine And.intro ?_ ?_;focus first|omega|rfl|assumption|exact⟨_,rfl,rfl⟩|(simp;omega)|(simp;done)))
  ·have e6:6-i=(6-(i+1))+1:=by omega
   rw[e6,Cv] at p2;rcases p3 with rfl|rfl
   all_goals
    simp -implicitDefEqProofs (disch:=omega) only[go_sem];refine aB (rU [108,105,115,116] [u] (es:=[[.i .i64 u.aV,.s u.fName,.sl (u.fArgs.map ay.enc)]]) (by simp only[List.map_cons,List.map_nil,ay.aj]) (by simp) (.inl rfl)) ?_;simp -implicitDefEqProofs (disch:=omega) only[go_sem];refine bT (i+1,nR [108,105,115,116] [u],.d (.sl ([u].map ay.enc))) (by simp only;omega) rfl ?_ ⟨by simp only;omega,p2,.inl rfl⟩;simp only[nR,ay.aV,ay.fName,List.map_cons,List.map_nil,ay.aj]
  ·have e6:6-i=0:=by omega
   rw[e6,Cv] at p2;rw[<-p2];rcases p3 with rfl|rfl
   all_goals
    simp -implicitDefEqProofs (disch:=omega) only[go_sem]
 rw[if_neg h];exact⟨rfl,rfl⟩
section
variable {w:World} {σ:Nat->Nat}
def PW:C->Option D
 | .d d=>some d
 | .bM es=>some (.sl es)
 | .bV _ es=>some (.sl es)
 |_=>none
theorem abf{S S':Store}{β β':Hs}{c:C}{d:D}{v:Value}(h:PW c=some d)(hr:iq w σ S β c v):iq w σ S' β' (.d d) v:=by
 cases c<;>simp only[PW,Option.some.injEq] at h<;>first|(cases h;done)|(subst h;first|exact hr|exact hr.1)
theorem G6{S S':Store}{β β':Hs}{pre:List C}{ds:List D}{x x' y y':C}{a:List Value}(h1:pre.map PW=ds.map some)(hr:fO w σ S β (pre++[x,y]) a)
 (hx:∀v,a[pre.length]? =some v->iq w σ S β x v->iq w σ S' β' x' v)(hy:∀v,a[pre.length+1]? =some v->iq w σ S β y v->iq w σ S' β' y' v):fO w σ S' β' (ds.map .d++[x',y']) a:=by
 have hl:pre.length=ds.length:=by have:=congrArg List.length h1;simpa using this
 refine⟨by have:=hr.1;simp only[List.length_append,List.length_map,List.length_cons,List.length_nil,hl] at this ⊢;exact this,fun j c hc=> ?_⟩;rcases Nat.lt_or_ge j pre.length with hj|hj
 ·rw[List.getElem?_append_left (by simp;omega),List.getElem?_map] at hc;obtain⟨d,hd,rfl⟩:=Option.map_eq_some_iff.1 hc;have hp:=congrArg (fun l=>l[j]?) h1;simp only[List.getElem?_map,hd,Option.map_some,List.getElem?_eq_getElem hj] at hp;obtain⟨v,e1,e2,e3⟩:=hr.2 j pre[j] (by rw[List.getElem?_append_left hj,List.getElem?_eq_getElem hj]);exact⟨v,e1,abf (Option.some.inj hp) e2,e3⟩
 obtain⟨k,rfl⟩:∃k,j=pre.length+k:=⟨j-pre.length,by omega⟩;rw[List.getElem?_append_right (by simp;omega),List.length_map,<-hl,Nat.add_sub_cancel_left] at hc
 match k,hc with
 |0,hc=>
  cases hc;obtain⟨v,e1,e2,e3⟩:=hr.2 pre.length x (by rw[List.getElem?_append_right (Nat.le_refl _),Nat.sub_self];rfl);exact⟨v,e1,hx v e1 e2,e3⟩
 |1,hc=>
  cases hc;obtain⟨v,e1,e2,e3⟩:=hr.2 (pre.length+1) y (by rw[List.getElem?_append_right (by omega),Nat.add_sub_cancel_left];rfl);exact⟨v,e1,hy v e1 e2,e3⟩
 |k+2,hc=>simp at hc
end
section
variable {P:Program} {S S':Store} {f:FuncId} {args:List V}
def Two(ds:List D)(z z':Nat)(es es':List (List D))(S':Store)(r:V)(own:List Obj)(S1:Store):Prop:=S1=S'/\∃pre x y,r=.agg (pre++[x,y])/\pre.map PW=ds.map some/\Df own x z es/\Df own y z' es'
theorem ng.aje{ds:List D}{z z':Nat}{es es':List (List D)}(h:ng P f args S (Two ds z z' es es' S')):
 bY P f args S fun r S1=>r=.agg (ds.map .d++[.d (.sl es),.d (.sl es')])/\S1=S':=by
 refine⟨h.1,fun w σ β vs hS hv=>(h.2 w σ β vs hS hv).mono fun e w' ⟨v,r,own,S1,bo,β1,σ',q1,q2,q3,q4,q5,q6,pre,x,y,q7,h1,q8,q9⟩=> ?_⟩;subst q6 q7;obtain⟨a,rfl,hc⟩:=q5;exact⟨_,.agg (ds.map .d++[.d (.sl es),.d (.sl es')]),S1,σ',β1,q1,q2.En,q3,⟨q4.size,q4.os,q4.output,q4.far,q4.near,fun b hb=>q4.own b (tV hb)⟩,⟨a,rfl,G6 (x':=.d (.sl es)) (y':=.d (.sl es')) h1 hc (fun v e1 e2=>uE q8 e2) (fun v e1 e2=>uE q9 e2)⟩,rfl,rfl⟩
theorem ng.ak8{ds:List D}{z z':Nat}{es es':List (List D)}(hz:z≠z')(ht:zy S'=true)(h:ng P f args S (Two ds z z' es es' S')):
 bY P f args S fun r S1=>r=.agg (ds.map .d++[.bV (0,xC S') es,.bV (0,xC S'+1) es'])/\S1=IU S' [.tok z es,.tok z' es']:=by
 refine⟨h.1,fun w σ β vs hS hv=>(h.2 w σ β vs hS hv).mono fun e w' ⟨v,r,own,S1,bo,β1,σ',q1,q2,q3,q4,q5,q6,pre,x,y,q7,h1,q8,q9⟩=> ?_⟩;subst q6 q7;obtain⟨a,rfl,hc⟩:=q5;obtain⟨u,e1,e2,e3⟩:=hc.2 pre.length x (by rw[List.getElem?_append_right (Nat.le_refl _),Nat.sub_self];rfl);obtain⟨u',I9,e2',e3'⟩:=hc.2 (pre.length+1) y (by rw[List.getElem?_append_right (by omega),Nat.add_sub_cancel_left];rfl);obtain⟨k1,k2⟩:=ET q2 q8 e2;obtain⟨k1',k2'⟩:=ET q2 q9 e2'
 cases S1 with
 |nil=>cases ht
 |cons fr Ω=>
 have hd:=q2.En
 obtain⟨bf,bΩ,rfl,hlen⟩:∃bf bΩ,β1=bf::bΩ/\bf.length=fr.length:=by
  cases β1 with
  |nil=>have:=hd.shape.1;simp at this
  |cons bf bΩ=>
   refine⟨bf,bΩ,rfl,?_⟩;obtain⟨gr,q1,q2⟩:=hd.shape.2 0 fr rfl;simp at q1;rw[q1];exact q2
 obtain⟨l1,l2,l3⟩:=hd.lay (o:=.tok z es) (h:=u) hlen (k1 _ _) fun b hb ⟨k,o,hh,f1,f2,f3⟩=>by
  obtain⟨m,g1,g2,g3⟩:=k2 b hb;have:=q2.apart (0,m) (k.1+1,k.2) _ o u hh b (by rw[bK];exact g1) (by rw[bK];exact g3) hb (by rw[bZ];exact f1) (by rw[bZ];exact f2) f3;cases this
 obtain⟨l4,l5,l6⟩:=l1.lay (o:=.tok z' es') (h:=u') (by simp[hlen]) (k1' _ _) fun b hb ⟨k,o,hh,f1,f2,f3⟩=>by
  obtain⟨m',g1',g2',g3'⟩:=k2' b hb;rcases l3 b ⟨k,o,hh,f1,f2,f3⟩ with⟨k,o,hh,f1,f2,f3⟩|q
  ·have:=q2.apart (0,m') (k.1+1,k.2) _ o u' hh b (by rw[bK];exact g1') (by rw[bK];exact g3') hb (by rw[bZ];exact f1) (by rw[bZ];exact f2) f3;cases this
  ·obtain⟨m,g1,g2,g3⟩:=k2 b q;have:=q2.apart (0,m') (0,m) _ _ u' u b (by rw[bK];exact g1') (by rw[bK];exact g3') hb (by rw[bK];exact g1) (by rw[bK];exact g3) q;cases this;rw[g1] at g1';injection g1' with g1';injection g1' with g1';exact hz g1'
 have el:(fr++[Obj.tok z es]).length=fr.length+1:=by simp
 refine⟨_,.agg (ds.map .d++[.bV (0,xC (fr::Ω)) es,.bV (0,xC (fr::Ω)+1) es']),_,σ',_,q1,l4,(q3.trans l2).trans l5,⟨q4.size,q4.os,q4.output,q4.far,q4.near,fun b hb=> ?_⟩,⟨a,rfl,G6 h1 hc (fun v f1 f2=> ?_) fun v f1 f2=> ?_⟩,rfl,?_⟩
 ·rcases l6 b hb with q|q
  ·rcases l3 b q with q|q
   ·exact q4.own b (tV q)
   ·obtain⟨m,g1,g2,g3⟩:=k2 b q;exact q4.own b ⟨(0,m),_,u,by rw[bK];exact g1,by rw[bK];exact g3,q⟩
  ·obtain⟨m,g1,g2,g3⟩:=k2' b q;exact q4.own b ⟨(0,m),_,u',by rw[bK];exact g1,by rw[bK];exact g3,q⟩
 ·rw[e1] at f1;cases f1;refine⟨uE q8 e2,.tok z es,?_,fun bB es' e=> ?_⟩
  ·rw[mP,bK,List.getElem?_append_left (by simp),List.getElem?_append_right (Nat.le_refl _),Nat.sub_self];rfl
  obtain⟨_,rfl⟩:=qp (lab:=none) e;refine⟨Nat.le_refl _,fun _=> ?_⟩;rw[mP,bK,<-hlen,List.getElem?_append_left (by simp),List.getElem?_append_right (Nat.le_refl _),Nat.sub_self];rfl
 ·rw[I9] at f1;cases f1;refine⟨uE q9 e2',.tok z' es',?_,fun bB es' e=> ?_⟩
  ·rw[mP,<-el];exact dB _ _ _
  obtain⟨_,rfl⟩:=qp (lab:=none) e;refine⟨Nat.le_refl _,fun _=> ?_⟩;rw[mP,<-el,show(fr++[Obj.tok z es]).length=(bf++[u]).length by simp[hlen]];exact dB _ _ _
 ·rw[Al,List.append_assoc];rfl
end
def zT:ay:=.mk 0 [] []
def kL(n:Int):aD:=.mk 1 [] [] n zT [] []
def uN(n:Int):aD:=.mk 2 [] [] n zT [] []
def uW(s:List UInt8):aD:=.mk 3 [] s 0 zT [] []
def oh(k:Int)(s:List UInt8)(l:List aD):aD:=.mk k [] s 0 zT l []
def wD:List (List UInt8):=[[102],[103]]
def yU:List (List UInt8):=[[115,104,111,119],[97,100,100]]
def uO:List (List UInt8):=[[43],[45],[42],[60],[61]]
theorem R9:eY wD:=by unfold eY;decide
theorem Yq:eY yU:=by unfold eY;decide
theorem Yr:eY uO:=by unfold eY;decide
def aL:List (List UInt8):=[[97]]
theorem ahe:eY aL:=by unfold eY;decide
def kG{bs:List Int}(k:Int)(sub:List (List UInt8)->Cu bs->aD×Cu bs)(vars:List (List UInt8))(c:Cu bs):aD×Cu bs:=
 if k=1 then(uN (aT 2 c).1,(aT 2 c).2) else
 if(k=2\/k=3)/\0<vars.length then(uW (bR vars c).1,(bR vars c).2) else
 if k=4 then(oh 4 (bR wD c).1 [(sub vars (bR wD c).2).1],(sub vars (bR wD c).2).2) else
 if k=5 then(.mk 5 (bR yU c).1 [109] 0 zT [(sub vars (bR yU c).2).1,(sub vars (sub vars (bR yU c).2).2).1] [],(sub vars (sub vars (bR yU c).2).2).2) else
 if k=6 then(oh 6 [99,111,110,115] [(sub vars c).1,(sub vars (sub vars c).2).1],(sub vars (sub vars c).2).2) else
 if k=7 then(.mk 7 [] [] 0 zT [(sub vars c).1] [.mk [110,105,108] [] (sub vars (sub vars c).2).1,.mk [99,111,110,115] [[104],[116]] (sub (vars++[[104],[116]]) (sub vars (sub vars c).2).2).1],(sub (vars++[[104],[116]]) (sub vars (sub vars c).2).2).2) else
 if k=8 then(oh 8 [121] [(sub vars c).1,(sub (vars++[[121]]) (sub vars c).2).1],(sub (vars++[[121]]) (sub vars c).2).2) else
 if k=9 then(oh 9 [] [(sub vars c).1,(sub vars (sub vars c).2).1,(sub vars (sub vars (sub vars c).2).2).1],(sub vars (sub vars (sub vars c).2).2).2) else
 if k=10 then(oh 10 (bR uO c).1 [(sub vars (bR uO c).2).1,(sub vars (sub vars (bR uO c).2).2).1],(sub vars (sub vars (bR uO c).2).2).2) else
 if k=11 then(.mk 11 [115,104,111,119] [] 0 zT [(sub vars c).1] [],(sub vars c).2) else
 if k=12 then(.mk 12 [] [] 0 (kH aL 1 c).1 [(sub vars (kH aL 1 c).2).1] [],(sub vars (kH aL 1 c).2).2) else
 (kL ((aT 20 c).1-5),(aT 20 c).2)
def gP{bs:List Int}:Nat->List (List UInt8)->Cu bs->aD×Cu bs
 |0,vars,c=>kG ((aT 13 c).1.tmod 3) (fun _ c=>(kL 0,c)) vars (aT 13 c).2
 |n+1,vars,c=>kG (aT 13 c).1 (gP n) vars (aT 13 c).2
theorem eY.append{a b:List (List UInt8)}(h:eY a)(k:eY b):eY (a++b):=fun s hs=>(List.mem_append.1 hs).elim (h s) (k s)
theorem lY(k:Int)(t s:List UInt8)(n:Int)(ty:ay)(a:List aD)(b:List bE):(aD.mk k t s n ty a b).sz=t.length+s.length+ty.sz+a.length+aQ (a.map aD.enc)+b.length+aQ (b.map bE.enc):=by
 have:=ay.cK ty;simp only[aD.sz,aD.aj,bG,bC,D.sz,List.length_map,aD.aV,aD.bW,aD.fName,aD.fN,aD.fType,aD.fArgs,aD.bP,this];omega
theorem sF(s:List UInt8)(v:List (List UInt8))(b:aD):bG (bE.mk s v b).enc=s.length+v.length+aQ (v.map encS)+b.sz:=by
 have:=aD.cK b;simp only[bE.aj,bG,bC,D.sz,List.length_map,bE.fP,bE.aU,bE.fBody,this];omega
theorem nT:zT.sz=0:=by simp[zT,ay.sz,ay.aj,bG,D.sz,aQ,ay.fName,ay.fArgs]
theorem Sb{bs:List Int}{k:Int}{sub:List (List UInt8)->Cu bs->aD×Cu bs}{vars:List (List UInt8)}{m:Nat}(hv:eY vars)(hs:∀v c,eY v->(sub v c).1.sz<=m)(c:Cu bs):(kG k sub vars c).1.sz<=3*m+40:=by
 have h1:=fun c=>hs vars c hv;have h2:=fun c=>hs (vars++[[104],[116]]) c (hv.append (by unfold eY;decide));have h3:=fun c=>hs (vars++[[121]]) c (hv.append (by unfold eY;decide));unfold kG;by_cases e0:k=1
 ·rw[if_pos e0];simp only[uN,uW,oh,kL,lY,sF,nT,List.map_cons,List.map_nil,List.length_cons,List.length_nil,aQ,aD.cK,encS,bG,D.sz];omega
 rw[if_neg e0];by_cases e1:(k=2\/k=3)/\0<vars.length
 ·rw[if_pos e1];simp only[uN,uW,oh,kL,lY,sF,nT,List.map_cons,List.map_nil,List.length_cons,List.length_nil,aQ,aD.cK,encS,bG,D.sz];have:=gN c hv;omega
 rw[if_neg e1];by_cases e2:k=4
 ·rw[if_pos e2];simp only[uN,uW,oh,kL,lY,sF,nT,List.map_cons,List.map_nil,List.length_cons,List.length_nil,aQ,aD.cK,encS,bG,D.sz];have:=gN c R9;have:=h1 (bR wD c).2;omega
 rw[if_neg e2];by_cases e3:k=5
 ·rw[if_pos e3];simp only[uN,uW,oh,kL,lY,sF,nT,List.map_cons,List.map_nil,List.length_cons,List.length_nil,aQ,aD.cK,encS,bG,D.sz];have:=gN c Yq;have:=h1 (bR yU c).2;have:=h1 (sub vars (bR yU c).2).2;omega
 rw[if_neg e3];by_cases e4:k=6
 ·rw[if_pos e4];simp only[uN,uW,oh,kL,lY,sF,nT,List.map_cons,List.map_nil,List.length_cons,List.length_nil,aQ,aD.cK,encS,bG,D.sz];have:=h1 c;have:=h1 (sub vars c).2;omega
 rw[if_neg e4];by_cases e5:k=7
 ·rw[if_pos e5];simp only[uN,uW,oh,kL,lY,sF,nT,List.map_cons,List.map_nil,List.length_cons,List.length_nil,aQ,aD.cK,encS,bG,D.sz];have:=h1 c;have:=h1 (sub vars c).2;have:=h2 (sub vars (sub vars c).2).2;omega
 rw[if_neg e5];by_cases e6:k=8
 ·rw[if_pos e6];simp only[uN,uW,oh,kL,lY,sF,nT,List.map_cons,List.map_nil,List.length_cons,List.length_nil,aQ,aD.cK,encS,bG,D.sz];have:=h1 c;have:=h3 (sub vars c).2;omega
 rw[if_neg e6];by_cases e7:k=9
 ·rw[if_pos e7];simp only[uN,uW,oh,kL,lY,sF,nT,List.map_cons,List.map_nil,List.length_cons,List.length_nil,aQ,aD.cK,encS,bG,D.sz];have:=h1 c;have:=h1 (sub vars c).2;have:=h1 (sub vars (sub vars c).2).2;omega
 rw[if_neg e7];by_cases e8:k=10
 ·rw[if_pos e8];simp only[uN,uW,oh,kL,lY,sF,nT,List.map_cons,List.map_nil,List.length_cons,List.length_nil,aQ,aD.cK,encS,bG,D.sz];have:=gN c Yr;have:=h1 (bR uO c).2;have:=h1 (sub vars (bR uO c).2).2;omega
 rw[if_neg e8];by_cases e9:k=11
 ·rw[if_pos e9];simp only[uN,uW,oh,kL,lY,sF,nT,List.map_cons,List.map_nil,List.length_cons,List.length_nil,aQ,aD.cK,encS,bG,D.sz];have:=h1 c;omega
 rw[if_neg e9];by_cases e10:k=12
 ·rw[if_pos e10];simp only[uN,uW,oh,kL,lY,sF,nT,List.map_cons,List.map_nil,List.length_cons,List.length_nil,aQ,aD.cK,encS,bG,D.sz];have:=GZ ahe 1 c;have:=h1 (kH aL 1 c).2;omega
 rw[if_neg e10];simp only[uN,uW,oh,kL,lY,sF,nT,List.map_cons,List.map_nil,List.length_cons,List.length_nil,aQ,aD.cK,encS,bG,D.sz];omega
theorem J8{bs:List Int}:∀(n:Nat)(vars:List (List UInt8))(c:Cu bs),eY vars->(gP n vars c).1.sz+20<=60*3^n
 |0,vars,c,hv=>by
  have:=Sb (k:=(aT 13 c).1.tmod 3) (sub:=fun _ c=>(kL 0,c)) (m:=0) hv (fun v c _=>by simp[kL,lY,nT,aQ]) (aT 13 c).2;rw[gP];omega
 |n+1,vars,c,hv=>by
  have ih:=J8 n (bs:=bs);have:=Sb (k:=(aT 13 c).1) (sub:=gP n) (m:=60*3^n-20) hv (fun v c h=>by have:=ih v c h;omega) (aT 13 c).2;have h1:1<=3^n:=Nat.one_le_pow _ _ (by omega);rw[gP,Nat.pow_succ];omega
theorem rV(k:Int)(t s:List UInt8)(n:Int)(ty:ay)(a:List aD)(b:List bE):(aD.mk k t s n ty a b).fArgs=a:=rfl
theorem rW(k:Int)(t s:List UInt8)(n:Int)(ty:ay)(a:List aD)(b:List bE):(aD.mk k t s n ty a b).bP=b:=rfl
theorem uP(s:List UInt8)(v:List (List UInt8))(b:aD):(bE.mk s v b).enc=.s s:: .sl (v.map encS)::b.enc:=by rw[bE.aj];rfl
def exP(t:aD):List D:=[.i .i64 t.aV,.s t.bW,.s t.fName,.i .i64 t.fN,.i .i64 t.fType.aV,.s t.fType.fName,.sl (t.fType.fArgs.map ay.enc)]
def PX(t:aD)(S':Store):V->List Obj->Store->Prop:=Two (exP t) 9 11 (t.fArgs.map aD.enc) (t.bP.map bE.enc) S'
theorem BH(l:List aD):∀y∈l.map aD.enc,y.length=9:=by
 intro y hy;obtain⟨x,_,rfl⟩:=List.mem_map.1 hy;exact aD.dx x
theorem aeF(l:List bE):∀y∈l.map bE.enc,y.length=11:=by
 intro y hy;obtain⟨x,_,rfl⟩:=List.mem_map.1 hy;exact bE.dx x
theorem qd(n:Int):aX prog 144 [.c (.d (.i .i64 n))] (.agg [.d (.i .i64 1),.d (.s []),.d (.s []),.d (.i .i64 n),.d (.i .i64 0),.d (.s []),.bM [],.bM [],.bM []]):=fun S=>by
 refine zcx [.cell 2 115] func144 ntmps144 ?_;simp -implicitDefEqProofs (disch:=omega) only[go_sem]
 first|done|exact⟨rfl,rfl⟩|rfl
theorem uF(s:List UInt8):aX prog 143 [.c (.d (.s s))] (.agg [.d (.i .i64 3),.d (.s []),.d (.s s),.d (.i .i64 0),.d (.i .i64 0),.d (.s []),.bM [],.bM [],.bM []]):=fun S=>by
 refine zcx [.cell 2 115] func143 ntmps143 ?_;simp -implicitDefEqProofs (disch:=omega) only[go_sem]
 first|done|exact⟨rfl,rfl⟩|rfl
theorem Cw(k:Int)(s:List UInt8)(l:List aD){es:List (List D)}(he:es=l.map aD.enc)(hl:l.length<=1048576){a:C}(ha:a=.d (.sl es)\/a=.bM es)(S:Store):ng prog 142 [.c (.d (.i .i64 k)),.c (.d (.s s)),.c a] S (PX (oh k s l) S):=by
 subst he;refine DZ (rs:=[.cell 6 115]) zmx func142 ntmps142 rfl rfl rfl rfl rfl ?_;have hln:=BH l;rcases ha with rfl|rfl
 all_goals
  simp -implicitDefEqProofs (disch:=omega) only[go_sem];refine⟨hln,⟨_,rfl,rfl⟩,fun y hy=>absurd hy List.not_mem_nil,by omega,rfl,[_,_,_,_,_,_,_],_,_,rfl,rfl,.inl ⟨1,rfl,rfl⟩,.inr ⟨rfl,fun e he=>by cases he⟩⟩
theorem jm{f:FuncId}{args:List V}{S S':Store}{t:aD}(h:ng prog f args S (PX t S')):bY prog f args S (fun r S1=>r=t.v/\S1=S'):=
 ng.aje h
theorem Yt{f:FuncId}{args:List V}{S S':Store}{t:aD}(ht:zy S'=true)(h:ng prog f args S (PX t S')):
 bY prog f args S (fun r S1=>r=.agg [.d (.i .i64 t.aV),.d (.s t.bW),.d (.s t.fName),.d (.i .i64 t.fN),.d (.i .i64 t.fType.aV),.d (.s t.fType.fName),.d (.sl (t.fType.fArgs.map ay.enc)),.bV (0,xC S') (t.fArgs.map aD.enc),.bV (0,xC S'+1) (t.bP.map bE.enc)]/\S1=IU S' [.tok 9 (t.fArgs.map aD.enc),.tok 11 (t.bP.map bE.enc)]):=
 ng.ak8 (by decide) ht h
theorem xG(k:Int)(s:List UInt8)(l:List aD){es:List (List D)}(he:es=l.map aD.enc)(hl:l.length<=1048576){a:C}(ha:a=.d (.sl es)\/a=.bM es){own:List Ab.Obj}{Ω:Store}:
 bY prog 142 [.c (.d (.i .i64 k)),.c (.d (.s s)),.c a] (own::Ω) (fun r S1=>r=.agg [.d (.i .i64 k),.d (.s []),.d (.s s),.d (.i .i64 0),.d (.i .i64 0),.d (.s []),.d (.sl []),.bV (0,own.length) es,.bV (0,own.length+1) []]/\S1=(own++[.tok 9 es,.tok 11 []])::Ω):=by
 have:=Yt (S':=own::Ω) rfl (Cw k s l he hl ha (own::Ω));rw[he];exact this
theorem mI{bs:List Int}(hB:Bytes bs):∀(n:Nat)(vars:List (List UInt8))(c:Cu bs)(l j:Nat)(S:Store),vars.length+2*n<=256->bn S (l,j)=some (.box (cur c))->
 ng prog 145 [.c (.ptr (l,j) 0),.c (.d (.sl (vars.map encS))),.c (.d (.i .i64 n))] S (PX (gP n vars c).1 (aY S (l,j) (.box (cur (gP n vars c).2)))):=by
 intro n
 induction n with
 |zero=>
  intro vars c l j S hv hk;have g:∀x:Ab.Obj,bn (aY S (l,j) x) (l,j)=some x:=fun x=>cO _ _ _ _ hk;have hx:=gK (n:=13) c (by omega);have hy:=Int.tmod_lt_of_pos (aT 13 c).1 (b:=3) (by omega);have hz:=Int.tmod_nonneg 3 hx.1;obtain⟨k,hkd⟩:∃k,k=(aT 13 c).1.tmod 3:=⟨_,rfl⟩;obtain⟨c1,hc1⟩:∃c1,c1=(aT 13 c).2:=⟨_,rfl⟩;rw[gP,<-hkd,<-hc1];obtain⟨q,hq⟩:∃q,q=kG k (fun _ c=>(kL 0,c)) vars c1:=⟨_,rfl⟩;rw[<-hq];refine DZ (rs:=[.cell 6 115]) zmx func145 ntmps145 rfl rfl rfl rfl rfl ?_;simp -implicitDefEqProofs (disch:=omega) only[go_sem];refine aW rfl (dR hB c (1+l) j _ 13 (by rw[aH];exact hk) (by omega) (by omega)) ?_;rw[<-hc1];have d0:decide (((0:Nat):Int)<=0)=true:=rfl;simp -implicitDefEqProofs (disch:=omega) only[go_sem,d0,ak]
  (repeat(with_reducible refine And.intro ?_ ?_;focus first|omega|rfl|assumption|exact⟨_,rfl,rfl⟩|(simp;omega)|(simp;done)))
  rw[<-hkd] at hy hz ⊢;have d1:k<3:=hy;have n3:decide (k=3)=false:=decide_eq_false (by omega);have n4:decide (k=4)=false:=decide_eq_false (by omega);have n5:decide (k=5)=false:=decide_eq_false (by omega);have n6:decide (k=6)=false:=decide_eq_false (by omega);have n7:decide (k=7)=false:=decide_eq_false (by omega);have n8:decide (k=8)=false:=decide_eq_false (by omega);have n9:decide (k=9)=false:=decide_eq_false (by omega);have n10:decide (k=10)=false:=decide_eq_false (by omega);have n11:decide (k=11)=false:=decide_eq_false (by omega);have n12:decide (k=12)=false:=decide_eq_false (by omega)
  with_reducible refine aC (fun hb=> ?_) (fun hb=> ?_)<;>have h:=hb<;>(try simp only[wf_preprocess] at h)<;>simp -implicitDefEqProofs (disch:=omega) only[go_sem,hb,n3,n4,n5,n6,n7,n8,n9,n10,n11,n12,ak,ah]<;>(repeat(with_reducible refine And.intro ?_ ?_;focus first|omega|rfl|assumption|exact⟨_,rfl,rfl⟩|(simp;omega)|(simp;done)))
  ·subst h;simp only[kG,reduceIte] at hq;refine aW rfl (dR hB c1 (1+l) j _ 2 (by rw[aH];exact g _) (by omega) (by omega)) ?_;simp -implicitDefEqProofs (disch:=omega) only[go_sem,n3,n4,n5,n6,n7,n8,n9,n10,n11,n12,ak,ah];rw[hq];refine⟨rfl,[_,_,_,_,_,_,_],_,_,rfl,rfl,.inr ⟨rfl,fun e he=>by cases he⟩,.inr ⟨rfl,fun e he=>by cases he⟩⟩
  have e1:=h
  with_reducible refine aC (fun hb=> ?_) (fun hb=> ?_)<;>have h:=hb<;>(try simp only[wf_preprocess] at h)<;>simp -implicitDefEqProofs (disch:=omega) only[go_sem,hb,n3,n4,n5,n6,n7,n8,n9,n10,n11,n12,ak,ah]<;>(repeat(with_reducible refine And.intro ?_ ?_;focus first|omega|rfl|assumption|exact⟨_,rfl,rfl⟩|(simp;omega)|(simp;done)))
  ·subst h
   with_reducible refine aC (fun hb=> ?_) (fun hb=> ?_)<;>have h:=hb<;>(try simp only[wf_preprocess] at h)<;>simp -implicitDefEqProofs (disch:=omega) only[go_sem,hb,ak,ah]<;>(repeat(with_reducible refine And.intro ?_ ?_;focus first|omega|rfl|assumption|exact⟨_,rfl,rfl⟩|(simp;omega)|(simp;done)))
   ·have hl:0<vars.length:=by omega
    simp only[kG,reduceIte,Int.reduceEq,false_or,or_false,or_self,false_and,true_and,if_pos hl] at hq;refine cu [true] rfl (dS hB c1 (1+l) j _ vars (by rw[aH];exact g _) (by omega) (by omega)) ?_;simp -implicitDefEqProofs (disch:=omega) only[go_sem,n3,n4,n5,n6,n7,n8,n9,n10,n11,n12,ak,ah];refine aB (uF (bR vars c1).1) ?_;simp -implicitDefEqProofs (disch:=omega) only[go_sem,n3,n4,n5,n6,n7,n8,n9,n10,n11,n12,ak,ah];rw[hq];refine⟨rfl,[_,_,_,_,_,_,_],_,_,rfl,rfl,.inr ⟨rfl,fun e he=>by cases he⟩,.inr ⟨rfl,fun e he=>by cases he⟩⟩
   ·have hl:¬0<vars.length:=by omega
    simp only[kG,reduceIte,Int.reduceEq,false_or,or_false,or_self,false_and,true_and,if_neg hl] at hq;have hx2:=gK (n:=20) c1 (by omega);refine aW rfl (dR hB c1 (1+l) j _ 20 (by rw[aH];exact g _) (by omega) (by omega)) ?_;simp -implicitDefEqProofs (disch:=omega) only[go_sem,n3,n4,n5,n6,n7,n8,n9,n10,n11,n12,ak,ah]
    (repeat(with_reducible refine And.intro ?_ ?_;focus first|omega|rfl|assumption|exact⟨_,rfl,rfl⟩|(simp;omega)|(simp;done)))
    refine aB (qd ((aT 20 c1).1-5)) ?_;simp -implicitDefEqProofs (disch:=omega) only[go_sem,n3,n4,n5,n6,n7,n8,n9,n10,n11,n12,ak,ah];rw[hq];refine⟨rfl,[_,_,_,_,_,_,_],_,_,rfl,rfl,.inr ⟨rfl,fun e he=>by cases he⟩,.inr ⟨rfl,fun e he=>by cases he⟩⟩
  have e2:=h
  have e3:¬k=3:=by omega
  have e4:¬k=4:=by omega
  have e5:¬k=5:=by omega
  have e6:¬k=6:=by omega
  have e7:¬k=7:=by omega
  have e8:¬k=8:=by omega
  have e9:¬k=9:=by omega
  have e10:¬k=10:=by omega
  have e11:¬k=11:=by omega
  have e12:¬k=12:=by omega
  simp only[kG,if_neg e1,e2,e3,false_or,or_self,false_and,reduceIte,if_neg e4,if_neg e5,if_neg e6,if_neg e7,if_neg e8,if_neg e9,if_neg e10,if_neg e11,if_neg e12] at hq;have hx2:=gK (n:=20) c1 (by omega);refine aW rfl (dR hB c1 (1+l) j _ 20 (by rw[aH];exact g _) (by omega) (by omega)) ?_;simp -implicitDefEqProofs (disch:=omega) only[go_sem,n3,n4,n5,n6,n7,n8,n9,n10,n11,n12,ak,ah]
  (repeat(with_reducible refine And.intro ?_ ?_;focus first|omega|rfl|assumption|exact⟨_,rfl,rfl⟩|(simp;omega)|(simp;done)))
  refine aB (qd ((aT 20 c1).1-5)) ?_;simp -implicitDefEqProofs (disch:=omega) only[go_sem,n3,n4,n5,n6,n7,n8,n9,n10,n11,n12,ak,ah];rw[hq];refine⟨rfl,[_,_,_,_,_,_,_],_,_,rfl,rfl,.inr ⟨rfl,fun e he=>by cases he⟩,.inr ⟨rfl,fun e he=>by cases he⟩⟩
 |succ n ih=>
  intro vars c l j S hv hk;have g:∀x:Ab.Obj,bn (aY S (l,j) x) (l,j)=some x:=fun x=>cO _ _ _ _ hk;have hx:=gK (n:=13) c (by omega);obtain⟨k,hkd⟩:∃k,k=(aT 13 c).1:=⟨_,rfl⟩;obtain⟨c1,hc1⟩:∃c1,c1=(aT 13 c).2:=⟨_,rfl⟩;have ih1:=fun vars c l j S hv hk=>jm (ih vars c l j S hv hk);rw[gP,<-hkd,<-hc1];obtain⟨q,hq⟩:∃q,q=kG k (gP n) vars c1:=⟨_,rfl⟩;rw[<-hq];refine DZ (rs:=[.cell 6 115]) zmx func145 ntmps145 rfl rfl rfl rfl rfl ?_;simp -implicitDefEqProofs (disch:=omega) only[go_sem];refine aW rfl (dR hB c (1+l) j _ 13 (by rw[aH];exact hk) (by omega) (by omega)) ?_;rw[<-hkd,<-hc1];have d0:decide (((n+1:Nat):Int)<=0)=false:=decide_eq_false (by omega)
  have d1:((n+1:Nat):Int)-1=(n:Int):=by omega
  simp -implicitDefEqProofs (disch:=omega) only[go_sem,d0,ak]
  have hm:∀y∈vars.map encS,y.length=1:=by
   intro y hy;obtain⟨z,_,rfl⟩:=List.mem_map.1 hy;rfl
  with_reducible refine aC (fun hb=> ?_) (fun hb=> ?_)<;>have h:=hb<;>(try simp only[wf_preprocess] at h)<;>simp -implicitDefEqProofs (disch:=omega) only[go_sem,hb,d1,ak,ah]<;>(repeat(with_reducible refine And.intro ?_ ?_;focus first|omega|rfl|assumption|exact⟨_,rfl,rfl⟩|(simp;omega)|(simp;done)))
  ·subst h;simp only[kG,reduceIte] at hq;refine aW rfl (dR hB c1 (1+l) j _ 2 (by rw[aH];exact g _) (by omega) (by omega)) ?_;simp -implicitDefEqProofs (disch:=omega) only[go_sem,d1,ak,ah];rw[hq];refine⟨rfl,[_,_,_,_,_,_,_],_,_,rfl,rfl,.inr ⟨rfl,fun e he=>by cases he⟩,.inr ⟨rfl,fun e he=>by cases he⟩⟩
  have e1:=h
  with_reducible refine aC (fun hb=> ?_) (fun hb=> ?_)<;>have h:=hb<;>(try simp only[wf_preprocess] at h)<;>simp -implicitDefEqProofs (disch:=omega) only[go_sem,hb,d1,ak,ah]<;>(repeat(with_reducible refine And.intro ?_ ?_;focus first|omega|rfl|assumption|exact⟨_,rfl,rfl⟩|(simp;omega)|(simp;done)))
  ·subst h
   with_reducible refine aC (fun hb=> ?_) (fun hb=> ?_)<;>have h:=hb<;>(try simp only[wf_preprocess] at h)<;>simp -implicitDefEqProofs (disch:=omega) only[go_sem,hb,d1,ak,ah]<;>(repeat(with_reducible refine And.intro ?_ ?_;focus first|omega|rfl|assumption|exact⟨_,rfl,rfl⟩|(simp;omega)|(simp;done)))
   ·have hl:0<vars.length:=by omega
    simp only[kG,reduceIte,Int.reduceEq,false_or,or_false,or_self,false_and,true_and,if_pos hl] at hq;refine cu [true] rfl (dS hB c1 (1+l) j _ vars (by rw[aH];exact g _) (by omega) (by omega)) ?_;simp -implicitDefEqProofs (disch:=omega) only[go_sem,d1,ak,ah];refine aB (uF (bR vars c1).1) ?_;simp -implicitDefEqProofs (disch:=omega) only[go_sem,d1,ak,ah];rw[hq];refine⟨rfl,[_,_,_,_,_,_,_],_,_,rfl,rfl,.inr ⟨rfl,fun e he=>by cases he⟩,.inr ⟨rfl,fun e he=>by cases he⟩⟩
   ·have hl:¬0<vars.length:=by omega
    simp only[kG,reduceIte,Int.reduceEq,false_or,or_false,or_self,false_and,true_and,if_neg hl] at hq;have hx2:=gK (n:=20) c1 (by omega);refine aW rfl (dR hB c1 (1+l) j _ 20 (by rw[aH];exact g _) (by omega) (by omega)) ?_;simp -implicitDefEqProofs (disch:=omega) only[go_sem,d1,ak,ah]
    (repeat(with_reducible refine And.intro ?_ ?_;focus first|omega|rfl|assumption|exact⟨_,rfl,rfl⟩|(simp;omega)|(simp;done)))
    refine aB (qd ((aT 20 c1).1-5)) ?_;simp -implicitDefEqProofs (disch:=omega) only[go_sem,d1,ak,ah];rw[hq];refine⟨rfl,[_,_,_,_,_,_,_],_,_,rfl,rfl,.inr ⟨rfl,fun e he=>by cases he⟩,.inr ⟨rfl,fun e he=>by cases he⟩⟩
  have e2:=h
  with_reducible refine aC (fun hb=> ?_) (fun hb=> ?_)<;>have h:=hb<;>(try simp only[wf_preprocess] at h)<;>simp -implicitDefEqProofs (disch:=omega) only[go_sem,hb,d1,ak,ah]<;>(repeat(with_reducible refine And.intro ?_ ?_;focus first|omega|rfl|assumption|exact⟨_,rfl,rfl⟩|(simp;omega)|(simp;done)))
  ·subst h
   with_reducible refine aC (fun hb=> ?_) (fun hb=> ?_)<;>have h:=hb<;>(try simp only[wf_preprocess] at h)<;>simp -implicitDefEqProofs (disch:=omega) only[go_sem,hb,d1,ak,ah]<;>(repeat(with_reducible refine And.intro ?_ ?_;focus first|omega|rfl|assumption|exact⟨_,rfl,rfl⟩|(simp;omega)|(simp;done)))
   ·have hl:0<vars.length:=by omega
    simp only[kG,reduceIte,Int.reduceEq,false_or,or_false,or_self,false_and,true_and,if_pos hl] at hq;refine cu [true] rfl (dS hB c1 (1+l) j _ vars (by rw[aH];exact g _) (by omega) (by omega)) ?_;simp -implicitDefEqProofs (disch:=omega) only[go_sem,d1,ak,ah];refine aB (uF (bR vars c1).1) ?_;simp -implicitDefEqProofs (disch:=omega) only[go_sem,d1,ak,ah];rw[hq];refine⟨rfl,[_,_,_,_,_,_,_],_,_,rfl,rfl,.inr ⟨rfl,fun e he=>by cases he⟩,.inr ⟨rfl,fun e he=>by cases he⟩⟩
   ·have hl:¬0<vars.length:=by omega
    simp only[kG,reduceIte,Int.reduceEq,false_or,or_false,or_self,false_and,true_and,if_neg hl] at hq;have hx2:=gK (n:=20) c1 (by omega);refine aW rfl (dR hB c1 (1+l) j _ 20 (by rw[aH];exact g _) (by omega) (by omega)) ?_;simp -implicitDefEqProofs (disch:=omega) only[go_sem,d1,ak,ah]
    (repeat(with_reducible refine And.intro ?_ ?_;focus first|omega|rfl|assumption|exact⟨_,rfl,rfl⟩|(simp;omega)|(simp;done)))
    refine aB (qd ((aT 20 c1).1-5)) ?_;simp -implicitDefEqProofs (disch:=omega) only[go_sem,d1,ak,ah];rw[hq];refine⟨rfl,[_,_,_,_,_,_,_],_,_,rfl,rfl,.inr ⟨rfl,fun e he=>by cases he⟩,.inr ⟨rfl,fun e he=>by cases he⟩⟩
  have e3:=h
  with_reducible refine aC (fun hb=> ?_) (fun hb=> ?_)<;>have h:=hb<;>(try simp only[wf_preprocess] at h)<;>simp -implicitDefEqProofs (disch:=omega) only[go_sem,hb,d1,ak,ah]<;>(repeat(with_reducible refine And.intro ?_ ?_;focus first|omega|rfl|assumption|exact⟨_,rfl,rfl⟩|(simp;omega)|(simp;done)))
  ·subst h;simp only[kG,reduceIte,Int.reduceEq,false_or,or_false,or_self,false_and] at hq;refine cu [true] rfl (dS hB c1 (1+l) j _ wD (by rw[aH];exact g _) (by decide) (by decide)) ?_;simp -implicitDefEqProofs (disch:=omega) only[go_sem,d1,ak,ah];refine cu [true] rfl (ih1 vars (bR wD c1).2 (1+l) j _ (by first|omega|(simp only[List.length_append,List.length_cons,List.length_nil];omega)) (by rw[aH];exact g _)) ?_;simp -implicitDefEqProofs (disch:=omega) only[go_sem,d1,ak,ah]
   (repeat(with_reducible refine And.intro ?_ ?_;focus first|omega|rfl|assumption|exact⟨_,rfl,rfl⟩|(simp;omega)|(simp;done)))
   refine aW rfl (xG 4 (bR wD c1).1 [(gP n vars (bR wD c1).2).1] (by simp only[List.map_cons,List.map_nil,aD.aj,ay.aj,List.cons_append,List.nil_append]) (by simp) (.inr rfl)) ?_;simp -implicitDefEqProofs (disch:=omega) only[go_sem,d1,ak,ah];rw[hq];refine⟨rfl,[_,_,_,_,_,_,_],_,_,rfl,rfl,.inl ⟨1,?_,?_⟩,.inl ⟨2,?_,?_⟩⟩<;>simp only[oh,rV,rW,List.map_cons,List.map_nil,aD.aj,uP,ay.aj,encS,List.cons_append,List.nil_append]<;>rfl
  have e4:=h
  with_reducible refine aC (fun hb=> ?_) (fun hb=> ?_)<;>have h:=hb<;>(try simp only[wf_preprocess] at h)<;>simp -implicitDefEqProofs (disch:=omega) only[go_sem,hb,d1,ak,ah]<;>(repeat(with_reducible refine And.intro ?_ ?_;focus first|omega|rfl|assumption|exact⟨_,rfl,rfl⟩|(simp;omega)|(simp;done)))
  ·subst h;simp only[kG,reduceIte,Int.reduceEq,false_or,or_false,or_self,false_and] at hq;refine cu [true] rfl (dS hB c1 (1+l) j _ yU (by rw[aH];exact g _) (by decide) (by decide)) ?_;simp -implicitDefEqProofs (disch:=omega) only[go_sem,d1,ak,ah];refine cu [true] rfl (ih1 vars (bR yU c1).2 (1+l) j _ (by first|omega|(simp only[List.length_append,List.length_cons,List.length_nil];omega)) (by rw[aH];exact g _)) ?_;simp -implicitDefEqProofs (disch:=omega) only[go_sem,d1,ak,ah];refine cu [true] rfl (ih1 vars (gP n vars (bR yU c1).2).2 (1+l) j _ (by first|omega|(simp only[List.length_append,List.length_cons,List.length_nil];omega)) (by rw[aH];exact g _)) ?_;simp -implicitDefEqProofs (disch:=omega) only[go_sem,d1,ak,ah]
   (repeat(with_reducible refine And.intro ?_ ?_;focus first|omega|rfl|assumption|exact⟨_,rfl,rfl⟩|(simp;omega)|(simp;done)))
   rw[hq];refine⟨rfl,[_,_,_,_,_,_,_],_,_,rfl,rfl,.inr ⟨?_,BH _⟩,.inr ⟨rfl,fun e he=>by cases he⟩⟩<;>simp only[oh,rV,rW,List.map_cons,List.map_nil,aD.aj,uP,ay.aj,encS,List.cons_append,List.nil_append]<;>rfl
  have e5:=h
  with_reducible refine aC (fun hb=> ?_) (fun hb=> ?_)<;>have h:=hb<;>(try simp only[wf_preprocess] at h)<;>simp -implicitDefEqProofs (disch:=omega) only[go_sem,hb,d1,ak,ah]<;>(repeat(with_reducible refine And.intro ?_ ?_;focus first|omega|rfl|assumption|exact⟨_,rfl,rfl⟩|(simp;omega)|(simp;done)))
  ·subst h;simp only[kG,reduceIte,Int.reduceEq,false_or,or_false,or_self,false_and] at hq;refine cu [true] rfl (ih1 vars c1 (1+l) j _ (by first|omega|(simp only[List.length_append,List.length_cons,List.length_nil];omega)) (by rw[aH];exact g _)) ?_;simp -implicitDefEqProofs (disch:=omega) only[go_sem,d1,ak,ah];refine cu [true] rfl (ih1 vars (gP n vars c1).2 (1+l) j _ (by first|omega|(simp only[List.length_append,List.length_cons,List.length_nil];omega)) (by rw[aH];exact g _)) ?_;simp -implicitDefEqProofs (disch:=omega) only[go_sem,d1,ak,ah]
   (repeat(with_reducible refine And.intro ?_ ?_;focus first|omega|rfl|assumption|exact⟨_,rfl,rfl⟩|(simp;omega)|(simp;done)))
   refine aW rfl (xG 6 [99,111,110,115] [(gP n vars c1).1,(gP n vars (gP n vars c1).2).1] (by simp only[List.map_cons,List.map_nil,aD.aj,ay.aj,List.cons_append,List.nil_append]) (by simp) (.inr rfl)) ?_;simp -implicitDefEqProofs (disch:=omega) only[go_sem,d1,ak,ah];rw[hq];refine⟨rfl,[_,_,_,_,_,_,_],_,_,rfl,rfl,.inl ⟨1,?_,?_⟩,.inl ⟨2,?_,?_⟩⟩<;>simp only[oh,rV,rW,List.map_cons,List.map_nil,aD.aj,uP,ay.aj,encS,List.cons_append,List.nil_append]<;>rfl
  have e6:=h
  with_reducible refine aC (fun hb=> ?_) (fun hb=> ?_)<;>have h:=hb<;>(try simp only[wf_preprocess] at h)<;>simp -implicitDefEqProofs (disch:=omega) only[go_sem,hb,d1,ak,ah]<;>(repeat(with_reducible refine And.intro ?_ ?_;focus first|omega|rfl|assumption|exact⟨_,rfl,rfl⟩|(simp;omega)|(simp;done)))
  ·subst h;simp only[kG,reduceIte,Int.reduceEq,false_or,or_false,or_self,false_and] at hq;refine cu [true] rfl (ih1 vars c1 (1+l) j _ (by first|omega|(simp only[List.length_append,List.length_cons,List.length_nil];omega)) (by rw[aH];exact g _)) ?_;simp -implicitDefEqProofs (disch:=omega) only[go_sem,d1,ak,ah];refine cu [true] rfl (ih1 vars (gP n vars c1).2 (1+l) j _ (by first|omega|(simp only[List.length_append,List.length_cons,List.length_nil];omega)) (by rw[aH];exact g _)) ?_;simp -implicitDefEqProofs (disch:=omega) only[go_sem,d1,ak,ah];have ih2:=fun c l j S hk=>ih1 (vars++[[104],[116]]) c l j S (by simp only[List.length_append,List.length_cons,List.length_nil];omega) hk;simp only[List.map_append,List.map_cons,List.map_nil,encS] at ih2;refine cu [true] rfl (ih2 (gP n vars (gP n vars c1).2).2 (1+l) j _ (by rw[aH];exact g _)) ?_;simp -implicitDefEqProofs (disch:=omega) only[go_sem,d1,ak,ah]
   (repeat(with_reducible refine And.intro ?_ ?_;focus first|omega|rfl|assumption|exact⟨_,rfl,rfl⟩|(simp;omega)|(simp;done)))
   rw[hq];refine⟨rfl,[_,_,_,_,_,_,_],_,_,rfl,rfl,.inr ⟨?_,BH _⟩,.inr ⟨?_,aeF _⟩⟩<;>simp only[oh,rV,rW,List.map_cons,List.map_nil,aD.aj,uP,ay.aj,encS,List.cons_append,List.nil_append]<;>rfl
  have e7:=h
  with_reducible refine aC (fun hb=> ?_) (fun hb=> ?_)<;>have h:=hb<;>(try simp only[wf_preprocess] at h)<;>simp -implicitDefEqProofs (disch:=omega) only[go_sem,hb,d1,ak,ah]<;>(repeat(with_reducible refine And.intro ?_ ?_;focus first|omega|rfl|assumption|exact⟨_,rfl,rfl⟩|(simp;omega)|(simp;done)))
  ·subst h;simp only[kG,reduceIte,Int.reduceEq,false_or,or_false,or_self,false_and] at hq;refine cu [true] rfl (ih1 vars c1 (1+l) j _ (by first|omega|(simp only[List.length_append,List.length_cons,List.length_nil];omega)) (by rw[aH];exact g _)) ?_;simp -implicitDefEqProofs (disch:=omega) only[go_sem,d1,ak,ah];refine⟨hm,⟨_,rfl,rfl⟩,fun y hy=>absurd hy List.not_mem_nil,by omega,by simp,⟨_,rfl,rfl⟩,by omega,?_⟩;have ih2:=fun c l j S hk=>ih1 (vars++[[121]]) c l j S (by simp only[List.length_append,List.length_cons,List.length_nil];omega) hk;simp only[List.map_append,List.map_cons,List.map_nil,encS] at ih2;refine cu [true] rfl (ih2 (gP n vars c1).2 (1+l) j _ (by rw[aH];exact g _)) ?_;simp -implicitDefEqProofs (disch:=omega) only[go_sem,d1,ak,ah]
   (repeat(with_reducible refine And.intro ?_ ?_;focus first|omega|rfl|assumption|exact⟨_,rfl,rfl⟩|(simp;omega)|(simp;done)))
   refine aW rfl (xG 8 [121] [(gP n vars c1).1,(gP n (vars++[[121]]) (gP n vars c1).2).1] (by simp only[List.map_cons,List.map_nil,aD.aj,ay.aj,List.cons_append,List.nil_append]) (by simp) (.inr rfl)) ?_;simp -implicitDefEqProofs (disch:=omega) only[go_sem,d1,ak,ah];rw[hq];refine⟨rfl,[_,_,_,_,_,_,_],_,_,rfl,rfl,.inl ⟨2,?_,?_⟩,.inl ⟨3,?_,?_⟩⟩<;>simp only[oh,rV,rW,List.map_cons,List.map_nil,aD.aj,uP,ay.aj,encS,List.cons_append,List.nil_append]<;>rfl
  have e8:=h
  with_reducible refine aC (fun hb=> ?_) (fun hb=> ?_)<;>have h:=hb<;>(try simp only[wf_preprocess] at h)<;>simp -implicitDefEqProofs (disch:=omega) only[go_sem,hb,d1,ak,ah]<;>(repeat(with_reducible refine And.intro ?_ ?_;focus first|omega|rfl|assumption|exact⟨_,rfl,rfl⟩|(simp;omega)|(simp;done)))
  ·subst h;simp only[kG,reduceIte,Int.reduceEq,false_or,or_false,or_self,false_and] at hq;refine cu [true] rfl (ih1 vars c1 (1+l) j _ (by first|omega|(simp only[List.length_append,List.length_cons,List.length_nil];omega)) (by rw[aH];exact g _)) ?_;simp -implicitDefEqProofs (disch:=omega) only[go_sem,d1,ak,ah];refine cu [true] rfl (ih1 vars (gP n vars c1).2 (1+l) j _ (by first|omega|(simp only[List.length_append,List.length_cons,List.length_nil];omega)) (by rw[aH];exact g _)) ?_;simp -implicitDefEqProofs (disch:=omega) only[go_sem,d1,ak,ah];refine cu [true] rfl (ih1 vars (gP n vars (gP n vars c1).2).2 (1+l) j _ (by first|omega|(simp only[List.length_append,List.length_cons,List.length_nil];omega)) (by rw[aH];exact g _)) ?_;simp -implicitDefEqProofs (disch:=omega) only[go_sem,d1,ak,ah]
   (repeat(with_reducible refine And.intro ?_ ?_;focus first|omega|rfl|assumption|exact⟨_,rfl,rfl⟩|(simp;omega)|(simp;done)))
   refine aW rfl (xG 9 [] [(gP n vars c1).1,(gP n vars (gP n vars c1).2).1,(gP n vars (gP n vars (gP n vars c1).2).2).1] (by simp only[List.map_cons,List.map_nil,aD.aj,ay.aj,List.cons_append,List.nil_append]) (by simp) (.inr rfl)) ?_;simp -implicitDefEqProofs (disch:=omega) only[go_sem,d1,ak,ah];rw[hq];refine⟨rfl,[_,_,_,_,_,_,_],_,_,rfl,rfl,.inl ⟨1,?_,?_⟩,.inl ⟨2,?_,?_⟩⟩<;>simp only[oh,rV,rW,List.map_cons,List.map_nil,aD.aj,uP,ay.aj,encS,List.cons_append,List.nil_append]<;>rfl
  have e9:=h
  with_reducible refine aC (fun hb=> ?_) (fun hb=> ?_)<;>have h:=hb<;>(try simp only[wf_preprocess] at h)<;>simp -implicitDefEqProofs (disch:=omega) only[go_sem,hb,d1,ak,ah]<;>(repeat(with_reducible refine And.intro ?_ ?_;focus first|omega|rfl|assumption|exact⟨_,rfl,rfl⟩|(simp;omega)|(simp;done)))
  ·subst h;simp only[kG,reduceIte,Int.reduceEq,false_or,or_false,or_self,false_and] at hq;refine cu [true] rfl (dS hB c1 (1+l) j _ uO (by rw[aH];exact g _) (by decide) (by decide)) ?_;simp -implicitDefEqProofs (disch:=omega) only[go_sem,d1,ak,ah];refine cu [true] rfl (ih1 vars (bR uO c1).2 (1+l) j _ (by first|omega|(simp only[List.length_append,List.length_cons,List.length_nil];omega)) (by rw[aH];exact g _)) ?_;simp -implicitDefEqProofs (disch:=omega) only[go_sem,d1,ak,ah];refine cu [true] rfl (ih1 vars (gP n vars (bR uO c1).2).2 (1+l) j _ (by first|omega|(simp only[List.length_append,List.length_cons,List.length_nil];omega)) (by rw[aH];exact g _)) ?_;simp -implicitDefEqProofs (disch:=omega) only[go_sem,d1,ak,ah]
   (repeat(with_reducible refine And.intro ?_ ?_;focus first|omega|rfl|assumption|exact⟨_,rfl,rfl⟩|(simp;omega)|(simp;done)))
   refine aW rfl (xG 10 (bR uO c1).1 [(gP n vars (bR uO c1).2).1,(gP n vars (gP n vars (bR uO c1).2).2).1] (by simp only[List.map_cons,List.map_nil,aD.aj,ay.aj,List.cons_append,List.nil_append]) (by simp) (.inr rfl)) ?_;simp -implicitDefEqProofs (disch:=omega) only[go_sem,d1,ak,ah];rw[hq];refine⟨rfl,[_,_,_,_,_,_,_],_,_,rfl,rfl,.inl ⟨1,?_,?_⟩,.inl ⟨2,?_,?_⟩⟩<;>simp only[oh,rV,rW,List.map_cons,List.map_nil,aD.aj,uP,ay.aj,encS,List.cons_append,List.nil_append]<;>rfl
  have e10:=h
  with_reducible refine aC (fun hb=> ?_) (fun hb=> ?_)<;>have h:=hb<;>(try simp only[wf_preprocess] at h)<;>simp -implicitDefEqProofs (disch:=omega) only[go_sem,hb,d1,ak,ah]<;>(repeat(with_reducible refine And.intro ?_ ?_;focus first|omega|rfl|assumption|exact⟨_,rfl,rfl⟩|(simp;omega)|(simp;done)))
  ·subst h;simp only[kG,reduceIte,Int.reduceEq,false_or,or_false,or_self,false_and] at hq;refine cu [true] rfl (ih1 vars c1 (1+l) j _ (by first|omega|(simp only[List.length_append,List.length_cons,List.length_nil];omega)) (by rw[aH];exact g _)) ?_;simp -implicitDefEqProofs (disch:=omega) only[go_sem,d1,ak,ah]
   (repeat(with_reducible refine And.intro ?_ ?_;focus first|omega|rfl|assumption|exact⟨_,rfl,rfl⟩|(simp;omega)|(simp;done)))
   rw[hq];refine⟨rfl,[_,_,_,_,_,_,_],_,_,rfl,rfl,.inr ⟨?_,BH _⟩,.inr ⟨rfl,fun e he=>by cases he⟩⟩<;>simp only[oh,rV,rW,List.map_cons,List.map_nil,aD.aj,uP,ay.aj,encS,List.cons_append,List.nil_append]<;>rfl
  have e11:=h
  with_reducible refine aC (fun hb=> ?_) (fun hb=> ?_)<;>have h:=hb<;>(try simp only[wf_preprocess] at h)<;>simp -implicitDefEqProofs (disch:=omega) only[go_sem,hb,d1,ak,ah]<;>(repeat(with_reducible refine And.intro ?_ ?_;focus first|omega|rfl|assumption|exact⟨_,rfl,rfl⟩|(simp;omega)|(simp;done)))
  ·subst h;simp only[kG,reduceIte,Int.reduceEq,false_or,or_false,or_self,false_and] at hq;refine cu [true] rfl (sS (EX hB (vars:=aL) (by decide) 1 c1 (1+l) j _ (by rw[aH];exact g _) (by omega))) ?_;simp -implicitDefEqProofs (disch:=omega) only[go_sem,d1,ak,ah];refine cu [true] rfl (ih1 vars (kH aL 1 c1).2 (1+l) j _ (by first|omega|(simp only[List.length_append,List.length_cons,List.length_nil];omega)) (by rw[aH];exact g _)) ?_;simp -implicitDefEqProofs (disch:=omega) only[go_sem,d1,ak,ah]
   (repeat(with_reducible refine And.intro ?_ ?_;focus first|omega|rfl|assumption|exact⟨_,rfl,rfl⟩|(simp;omega)|(simp;done)))
   rw[hq];refine⟨rfl,[_,_,_,_,_,_,_],_,_,rfl,rfl,.inr ⟨?_,BH _⟩,.inr ⟨rfl,fun e he=>by cases he⟩⟩<;>simp only[oh,rV,rW,List.map_cons,List.map_nil,aD.aj,uP,ay.aj,encS,List.cons_append,List.nil_append]<;>rfl
  have e12:=h;simp only[kG,if_neg e1,e2,e3,false_or,or_self,false_and,reduceIte,if_neg e4,if_neg e5,if_neg e6,if_neg e7,if_neg e8,if_neg e9,if_neg e10,if_neg e11,if_neg e12] at hq;have hx2:=gK (n:=20) c1 (by omega);refine aW rfl (dR hB c1 (1+l) j _ 20 (by rw[aH];exact g _) (by omega) (by omega)) ?_;simp -implicitDefEqProofs (disch:=omega) only[go_sem,d1,ak,ah]
  (repeat(with_reducible refine And.intro ?_ ?_;focus first|omega|rfl|assumption|exact⟨_,rfl,rfl⟩|(simp;omega)|(simp;done)))
  refine aB (qd ((aT 20 c1).1-5)) ?_;simp -implicitDefEqProofs (disch:=omega) only[go_sem,d1,ak,ah];rw[hq];refine⟨rfl,[_,_,_,_,_,_,_],_,_,rfl,rfl,.inr ⟨rfl,fun e he=>by cases he⟩,.inr ⟨rfl,fun e he=>by cases he⟩⟩
end Go.Ab