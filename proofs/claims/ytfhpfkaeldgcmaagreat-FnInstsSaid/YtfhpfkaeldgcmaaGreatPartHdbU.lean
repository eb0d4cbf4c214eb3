/-
  SEVERAL TEXTS IN ONE (merged by program): contracts and models, each with its own heading.
-/
import Derived.Test.YtfhpfkaeldgcmaaGreatPartHdbF
import Derived.Test.YtfhpfkaeldgcmaaGreatPartHdbR
open Go.Proofs Go.Proofs.Tryz
set_option linter.unusedSimpArgs false
set_option linter.unusedVariables false
set_option maxRecDepth 4000
namespace Go.Ab
def Hg(S:Store)(os:List Obj):Store:=match S with
 |fr::Ω=>(fr++os)::Ω
 |[]=>[]
def wK(S:Store):Nat:=match S with
 |fr::_=>fr.length
 |[]=>0
def yO(S:Store):Bool:=match S with
 |_::_=>true
 |[]=>false
theorem zF{fr:List Obj}{Ω:Store}{os:List Obj}:Hg (fr::Ω) os=(fr++os)::Ω:=rfl
theorem mP{fr:List Obj}{Ω:Store}:wK (fr::Ω)=fr.length:=rfl
theorem Tp{fr:List Obj}{Ω:Store}:yO (fr::Ω)=true:=rfl
theorem Xh{k:Key}{x:Obj}:∀{S:Store},yO (aX S k x)=yO S
 |[]=>rfl
 |fr::S=>by
  obtain⟨l,j⟩:=k;cases l<;>rfl
theorem adr{k:Key}{x:Obj}:∀{S:Store},wK (aX S k x)=wK S
 |[]=>rfl
 |fr::S=>by
  obtain⟨l,j⟩:=k;cases l
  ·show(fr.set j x).length=fr.length
   simp
  ·rfl
def mY(P:Program)(f:FuncId)(args:List V)(S:Store)(raw:V->List Obj->Store->Prop):Prop:=
 Known P f/\∀w σ β vs,eF w σ S β->qU w σ S β args vs->
  Calls P f vs.toArray w fun e w'=>∃v r own S1 bo β1 σ',e=.returned v/\eF w' σ' (own::S1) (bo::β1)/\Keep S β S1 β1/\Step S β σ w (own::S1) (bo::β1) σ' w'/\dP w' σ' (own::S1) (bo::β1) r v/\raw r own S1
def Mt(P:Program)(rs:List ResultVar)(raw:V->List Obj->Store->Prop)(e:Exit)(s:St):Prop:=
 match e with
 | .normal| .ret=>(nG P rs s).1/\match s.st with
   |own::S1=>raw (nG P rs s).2 own S1
   |[]=>False
 |_=>False
section
variable {P:Program} {N:Nat} {s:St} {S:Store}
theorem F7{f:FuncId}{fn:Func}{c:Code}{args:List V}{raw:V->List Obj->Store->Prop}(hf:P.funcs[f]? =some fn)(hb:fn.body=some c)(hn:(fn.name== "runtime.NumGoroutine")=false)
 (hl:args.length<=fn.ntmps)(h:AW P fn.ntmps c (Mt P fn.results.toList raw) ⟨kE (args.map (V.up 1)) 0,[]::S⟩):mY P f args S raw:=by
 refine⟨⟨fn,hf,hn,by simp[hb]⟩,fun w σ β vs hS hargs=> ?_⟩;refine calls_of_wp hf hb ?_;have hlen:vs.length=args.length:=hargs.1.symm
 have PS:jH fn.ntmps ⟨kE (args.map (V.up 1)) 0,[]::S⟩ {tmps:=vs.toArray++Array.replicate (fn.ntmps-vs.toArray.size) undef,defers:=[]} w σ ([]::β):=by
  refine⟨by simp;omega,rfl,hS.up1,fun t=> ?_⟩;show dP w σ ([]::S) ([]::β) (look (kE (args.map (V.up 1)) 0) t) _;rw[zy,if_pos (Nat.zero_le _),Nat.sub_zero,List.getElem?_map]
  cases ha:args[t]? with
  |none=>exact trivial
  |some x=>
   obtain⟨v,hv,hr⟩:=hargs.2 t x ha;have ht:=(List.getElem?_eq_some_iff.1 hv).1
   have:(vs.toArray++Array.replicate (fn.ntmps-vs.toArray.size) undef).getD t undef=v:=by
    rw[Array.getD_eq_getD_getElem?,Array.getElem?_append_left (by simpa using ht)];simp[hv]
   rw[this];exact GH (S:=[]::S) (β:=[]::β) 1 hr
 refine wp_mono (h _ w σ ([]::β) PS) ?_;rintro e a' w' ⟨s',σ',β',hR,hst,hkp,hq⟩
 have main:((nG P fn.results.toList s').1/\match s'.st with
  |own::S1=>raw (nG P fn.results.toList s').2 own S1
  |[]=>False)->
   a'.defers=[]/\∃v,(results fn a'.tmps).run P w'=.ok v w'/\∃v1 r own S1 bo β1 σ',Ending.returned v=Ending.returned v1/\eF w' σ' (own::S1) (bo::β1)/\Keep S β S1 β1/\Step S β σ w (own::S1) (bo::β1) σ' w'/\dP w' σ' (own::S1) (bo::β1) r v1/\raw r own S1:=by
  rintro⟨q1,q2⟩;obtain⟨v,hv,hrep⟩:=Fp (fn:=fn) hR q1;obtain⟨tm,st⟩:=s';simp only at q2;split at q2
  ·rename_i own S1;obtain⟨bo,β1,rfl,hlo⟩:=frames hR;have hst':Step ([]::S) ([]::β) σ w (own::S1) (bo::β1) σ' w':=hst;exact⟨hR.defers,v,hv,v,_,own,S1,bo,β1,σ',rfl,hR.S,hkp,⟨hst'.size,hst'.os,hst'.output,fun b hb ho=>hst'.far b hb (fun x=>ho (zO x)),hst'.near,fun b hb=>(hst'.own b hb).imp zO id⟩,hrep,q2⟩
  ·exact q2.elim
 cases e with
 |normal=>exact main hq
 |ret=>exact main hq
 |_=>exact hq.elim
def Q7(P:Program)(rs:List ResultVar)(raw:V->List Obj->Store->Prop)(s:St)(r:R):Prop:=r.1/\match s.st with
 |own::S1=>raw r.2 own S1
 |[]=>False
@[congr] theorem ajT {rs:List ResultVar} {raw:V->List Obj->Store->Prop} {s s':St} {r r':R} (h1:s=s') (h2:r=r'):Q7 P rs raw s r=Q7 P rs raw s' r':=by rw[h1,h2]
theorem ads{rs:List ResultVar}{raw:V->List Obj->Store->Prop}{tm:List (Nat×V)}{S:Store}:Mt P rs raw .ret ⟨tm,S⟩=Q7 P rs raw ⟨tm,S⟩ (nG P rs ⟨tm,S⟩):=rfl
theorem Tq{rs:List ResultVar}{raw:V->List Obj->Store->Prop}{tm:List (Nat×V)}{S:Store}:Mt P rs raw .normal ⟨tm,S⟩=Q7 P rs raw ⟨tm,S⟩ (nG P rs ⟨tm,S⟩):=rfl
theorem afW{rs:List ResultVar}{raw:V->List Obj->Store->Prop}{tm:List (Nat×V)}{own:List Obj}{S1:Store}{p:Prop}{v:V}:Q7 P rs raw ⟨tm,own::S1⟩ (p,v)=(p/\raw v own S1):=rfl
theorem Dg{f:FuncId}{fn:Func}{c:Code}{args:List V}{raw:V->List Obj->Store->Prop}{rs:List ResultVar}(fq:P.follows .mixedOrders=true)(hf:P.funcs[f]? =some fn)(hN:fn.ntmps=N)
 (hb:fn.body=some c) (hn:(fn.name== "runtime.NumGoroutine")=false) (hr:fn.results.toList=rs) (hl:Nat.ble args.length N=true) (hok:codeOk N c=true)
 (h:CW P N c (Mt P rs raw) ⟨kE (args.map (V.up 1)) 0,[]::S⟩):mY P f args S raw:=by
 subst hN;subst hr;exact F7 hf hb hn (Nat.le_of_ble_eq_true hl) (jy fq c _ _ hok h)
theorem Us(T:List TypeId){f:FuncId}{fn:Func}{c:Code}{args:List V}{raw:V->List Obj->Store->Prop}{rs:List ResultVar}(fq:P.follows .mixedOrders=true)(hf:P.funcs[f]? =some fn)(hN:fn.ntmps=N)
 (hb:fn.body=some c) (hn:(fn.name== "runtime.NumGoroutine")=false) (hr:fn.results.toList=rs) (hl:Nat.ble args.length N=true) (hok:nU T N c=true)
 (h:mh P N T c (Mt P rs raw) ⟨kE (args.map (V.up 1)) 0,[]::S⟩):mY P f args S raw:=by
 subst hN;subst hr;exact F7 hf hb hn (Nat.le_of_ble_eq_true hl) (nO fq c _ _ hok h)
theorem mY.mono{f:FuncId}{args:List V}{raw raw':V->List Obj->Store->Prop}(h:mY P f args S raw)(hi:∀r own S1,raw r own S1->raw' r own S1):mY P f args S raw':=
 ⟨h.1,fun w σ β vs hS hv=>(h.2 w σ β vs hS hv).mono fun e w' ⟨v,r,own,S1,bo,β1,σ',q1,q2,q3,q4,q5,q6⟩=>⟨v,r,own,S1,bo,β1,σ',q1,q2,q3,q4,q5,hi _ _ _ q6⟩⟩
end
def Cm(own:List Obj)(x:C)(z:Nat)(es:List (List D)):Prop:=(∃m,own[m]? =some (.tok z es)/\x=.bX (0,m) es)\/(x=.bI es/\∀e∈es,e.length=z)
section
variable {w:World} {σ:Nat->Nat} {own fr:List Obj} {Ω:Store} {bo bf:List Value} {bΩ:Hs}
theorem tV{S1:Store}{β1:Hs}{x:C}{z:Nat}{es:List (List D)}{v:Value}(h:Cm own x z es)(hr:gF w σ (own::S1) (bo::β1) x v):dM w σ (.sl es) v:=by
 rcases h with⟨m,h1,rfl⟩|⟨rfl,_⟩
 ·exact hr.1
 ·exact hr.1
theorem Eh{S1:Store}{β1:Hs}{x:C}{z:Nat}{es:List (List D)}{v:Value}(hS:eF w σ (own::S1) (bo::β1))(h:Cm own x z es)(hr:gF w σ (own::S1) (bo::β1) x v):
 (∀S' β',gJ w σ S' β' (.tok z es) v)/\∀b,owns (.tok z es) v b->∃m,own[m]? =some (.tok z es)/\x=.bX (0,m) es/\bo[m]? =some v:=by
 rcases h with⟨m,h1,rfl⟩|⟨rfl,h2⟩
 ·obtain⟨hd,o,ho,hl⟩:=hr;rw[bD,h1] at ho;cases ho;have hb:=(hl _ _ (.inl rfl)).2 rfl;obtain⟨hv,e1,e2⟩:=hS.obj (0,m) _ (by rw[bD];exact h1);rw[hb] at e1;cases e1;rw[bD] at hb;exact⟨fun _ _=>e2,fun b _=>⟨m,h1,rfl,hb⟩⟩
 ·obtain⟨hd,a,n,rfl⟩:=hr
  have hn:n=es.length:=by cases hd<;>rfl
  subst hn;refine⟨fun _ _=>⟨hd,h2,a,es.length,rfl,Nat.le_refl _,.inl rfl⟩,fun b hb=> ?_⟩
  cases a with
  |none=>cases hb
  |some a=>simp[owns,blk] at hb
end
def AR(cs:List C):Bool:=cs.all fun c=>match c with
 | .d _=>true
 |_=>false
theorem KW{w:World}{σ:Nat->Nat}{S S':Store}{β β':Hs}{c:C}{v:Value}(h:(match c with
 | .d _=>true
 |_=>false)=true) (hr:gF w σ S β c v):gF w σ S' β' c v:=by
 cases c<;>first|exact hr|(cases h;done)
theorem Io{w:World}{σ:Nat->Nat}{S S':Store}{β β':Hs}{pre post:List C}{x x':C}{a:List Value}(h1:AR pre=true)(h2:AR post=true)(hr:fD w σ S β (pre++x::post) a)
 (hx:∀v,a[pre.length]? =some v->gF w σ S β x v->gF w σ S' β' x' v):fD w σ S' β' (pre++x'::post) a:=by
 refine⟨by simpa using hr.1,fun j y hy=> ?_⟩;rcases Nat.lt_trichotomy j pre.length with hj|hj|hj
 ·rw[List.getElem?_append_left hj] at hy;obtain⟨v,e1,e2,e3⟩:=hr.2 j y (by rw[List.getElem?_append_left hj];exact hy);exact⟨v,e1,KW (List.all_eq_true.1 h1 y (List.mem_of_getElem? hy)) e2,e3⟩
 ·subst hj;rw[List.getElem?_append_right (Nat.le_refl _),Nat.sub_self,List.getElem?_cons_zero] at hy;cases hy;obtain⟨v,e1,e2,e3⟩:=hr.2 pre.length x (by rw[List.getElem?_append_right (Nat.le_refl _),Nat.sub_self];rfl);exact⟨v,e1,hx v e1 e2,e3⟩
 ·rw[List.getElem?_append_right (by omega),show j-pre.length=(j-pre.length-1)+1 by omega,List.getElem?_cons_succ] at hy;obtain⟨v,e1,e2,e3⟩:=hr.2 j y (by rw[List.getElem?_append_right (by omega),show j-pre.length=(j-pre.length-1)+1 by omega,List.getElem?_cons_succ];exact hy);exact⟨v,e1,KW (List.all_eq_true.1 h2 y (List.mem_of_getElem? hy)) e2,e3⟩
section
variable {P:Program} {S S':Store} {f:FuncId} {args:List V}
theorem mY.plain{pre post:List C}{z:Nat}{es:List (List D)}(h1:AR pre=true)(h2:AR post=true)(h:mY P f args S fun r own S1=>S1=S'/\∃x,r=.agg (pre++x::post)/\Cm own x z es):
 cB P f args S fun r S1=>r=.agg (pre++ .d (.sl es)::post)/\S1=S':=by
 refine⟨h.1,fun w σ β vs hS hv=>(h.2 w σ β vs hS hv).mono fun e w' ⟨v,r,own,S1,bo,β1,σ',q1,q2,q3,q4,q5,q6,x,q7,q8⟩=> ?_⟩;subst q6 q7;obtain⟨a,rfl,hc⟩:=q5;exact⟨_,.agg (pre++ .d (.sl es)::post),S1,σ',β1,q1,q2.Dx,q3,⟨q4.size,q4.os,q4.output,q4.far,q4.near,fun b hb=>q4.own b (sV hb)⟩,⟨a,rfl,Io h1 h2 hc fun v e1 e2=>tV q8 e2⟩,rfl,rfl⟩
theorem mY.push{pre post:List C}{z:Nat}{es:List (List D)}(h1:AR pre=true)(h2:AR post=true)(ht:yO S'=true)(h:mY P f args S fun r own S1=>S1=S'/\∃x,r=.agg (pre++x::post)/\Cm own x z es):
 cB P f args S fun r S1=>r=.agg (pre++ .bX (0,wK S') es::post)/\S1=Hg S' [.tok z es]:=by
 refine⟨h.1,fun w σ β vs hS hv=>(h.2 w σ β vs hS hv).mono fun e w' ⟨v,r,own,S1,bo,β1,σ',q1,q2,q3,q4,q5,q6,x,q7,q8⟩=> ?_⟩;subst q6 q7;obtain⟨a,rfl,hc⟩:=q5;obtain⟨u,e1,e2,e3⟩:=hc.2 pre.length x (by rw[List.getElem?_append_right (Nat.le_refl _),Nat.sub_self];rfl);obtain⟨k1,k2⟩:=Eh q2 q8 e2
 cases S1 with
 |nil=>cases ht
 |cons fr Ω=>
 have hd:=q2.Dx
 obtain⟨bf,bΩ,rfl,hlen⟩:∃bf bΩ,β1=bf::bΩ/\bf.length=fr.length:=by
  cases β1 with
  |nil=>have:=hd.shape.1;simp at this
  |cons bf bΩ=>
   refine⟨bf,bΩ,rfl,?_⟩;obtain⟨gr,q1,q2⟩:=hd.shape.2 0 fr rfl;simp at q1;rw[q1];exact q2
 obtain⟨l1,l2,l3⟩:=hd.lay (o:=.tok z es) (h:=u) hlen (k1 _ _) fun b hb ⟨k,o,hh,f1,f2,f3⟩=>by
  obtain⟨m,g1,g2,g3⟩:=k2 b hb;have:=q2.apart (0,m) (k.1+1,k.2) _ o u hh b (by rw[bD];exact g1) (by rw[bD];exact g3) hb (by rw[bY];exact f1) (by rw[bY];exact f2) f3;cases this
 refine⟨_,.agg (pre++ .bX (0,wK (fr::Ω)) es::post),_,σ',_,q1,l1,q3.trans l2,⟨q4.size,q4.os,q4.output,q4.far,q4.near,fun b hb=> ?_⟩,⟨a,rfl,Io h1 h2 hc fun v f1 f2=> ?_⟩,rfl,rfl⟩
 ·rcases l3 b hb with q|q
  ·exact q4.own b (sV q)
  ·obtain⟨m,g1,g2,g3⟩:=k2 b q;exact q4.own b ⟨(0,m),_,u,by rw[bD];exact g1,by rw[bD];exact g3,q⟩
 ·rw[e1] at f1;cases f1;refine⟨tV q8 e2,_,by rw[mP];exact dH _ _ _,fun aY es' e=> ?_⟩;obtain⟨_,rfl⟩:=pX (lab:=none) e;exact⟨Nat.le_refl _,fun _=>by rw[mP,<-hlen,dH]⟩
end
attribute [go_sem ↓] ads Tq
attribute [go_sem] afW zF mP Tp Xh adr
def nJ(s:List UInt8):ay:=.mk 1 s []
def rD(s:List UInt8)(l:List ay):ay:=.mk 2 s l
def BG(s:List UInt8)(t:ay):ay:=.mk 3 s [t]
def adt(s:List UInt8):ay:=.mk 4 s []
def Ei:List (List UInt8):=[[105,110,116],[98,111,111,108],[117,110,105,116]]
def BH:List (List UInt8):=[[108,105,115,116],[108,105,115,116],[98,111,120]]
def kH{bs:List Int}(vars:List (List UInt8)):Nat->Cu bs->ay×Cu bs
 |0,c=>if(aT 8 c).1<3/\0<vars.length then(nJ (bP vars (aT 8 c).2).1,(bP vars (aT 8 c).2).2)
  else(rD (bP Ei (aT 8 c).2).1 [],(bP Ei (aT 8 c).2).2)
 |n+1,c=>if(aT 8 c).1<3/\0<vars.length then(nJ (bP vars (aT 8 c).2).1,(bP vars (aT 8 c).2).2)
  else if(aT 8 c).1<5 then(rD (bP Ei (aT 8 c).2).1 [],(bP Ei (aT 8 c).2).2)
  else if(aT 8 c).1=5 then(rD [112,97,105,114] [(kH vars n (aT 8 c).2).1,(kH vars n (kH vars n (aT 8 c).2).2).1],(kH vars n (kH vars n (aT 8 c).2).2).2)
  else(rD (bP BH (aT 8 c).2).1 [(kH vars n (bP BH (aT 8 c).2).2).1],(kH vars n (bP BH (aT 8 c).2).2).2)
def eZ(l:List (List UInt8)):Prop:=∀s∈l,s.length<=8
theorem gP{bs:List Int}{xs:List (List UInt8)}(c:Cu bs)(h:eZ xs):(bP xs c).1.length<=8:=by
 by_cases h1:1<=xs.length
 ·exact h _ (Bv c h1)
 ·have:xs=[]:=List.eq_nil_of_length_eq_zero (by omega);subst this;simp[bP]
theorem KX:eZ Ei:=by unfold eZ;decide
theorem short_list:eZ BH:=by unfold eZ;decide
theorem nD(s:List UInt8):(nJ s).sz=s.length:=by simp[nJ,ay.sz,ay.aj,bF,D.sz,aI,ay.fName,ay.fArgs]
theorem Mv(s:List UInt8):(rD s []).sz=s.length:=by simp[rD,ay.sz,ay.aj,bF,D.sz,aI,ay.fName,ay.fArgs]
theorem Hl(s:List UInt8)(t:ay):(rD s [t]).sz=s.length+1+t.sz:=by
 have:=ay.cK t;simp only[rD,ay.sz,ay.aj,bF,D.sz,aI,ay.fName,ay.fArgs,List.map_cons,List.map_nil,List.length_cons,List.length_nil] at this ⊢;omega
theorem Ut(s:List UInt8)(t u:ay):(rD s [t,u]).sz=s.length+2+t.sz+u.sz:=by
 have h1:=ay.cK t;have h2:=ay.cK u;simp only[rD,ay.sz,ay.aj,bF,D.sz,aI,ay.fName,ay.fArgs,List.map_cons,List.map_nil,List.length_cons,List.length_nil] at h1 h2 ⊢;omega
theorem F8{bs:List Int}{vars:List (List UInt8)}(hv:eZ vars):∀(n:Nat)(c:Cu bs),(kH vars n c).1.sz+10<=18*2^n
 |0,c=>by
  rw[kH];split
  ·have:=gP (aT 8 c).2 hv;simp only[nD];omega
  ·have:=gP (aT 8 c).2 KX;simp only[Mv];omega
 |n+1,c=>by
  have ih:=F8 hv n (bs:=bs)
  have hp:2^ (n+1)=2^n+2^n:=by rw[Nat.pow_succ];omega
  have h2:=Nat.one_le_two_pow (n:=n);rw[kH];split
  ·have:=gP (aT 8 c).2 hv;simp only[nD];omega
  split
  ·have:=gP (aT 8 c).2 KX;simp only[Mv];omega
  split
  ·have h3:=ih (aT 8 c).2;have h4:=ih (kH vars n (aT 8 c).2).2;simp only[Ut,List.length_cons,List.length_nil];omega
  ·have h3:=ih (bP BH (aT 8 c).2).2;have:=gP (aT 8 c).2 short_list;simp only[Hl];omega
def tyP(t:ay):List C:=[.d (.i .i64 t.aR),.d (.s t.fName)]
theorem ND(t:ay):AR (tyP t)=true:=rfl
def KY(t:ay)(S':Store)(r:V)(own:List Obj)(S1:Store):Prop:=S1=S'/\∃x,r=.agg (tyP t++x::[])/\Cm own x 3 (t.fArgs.map ay.enc)
theorem Q8(l:List ay):∀y∈l.map ay.enc,y.length=3:=by
 intro y hy;obtain⟨x,_,rfl⟩:=List.mem_map.1 hy;rw[ay.aj];rfl
theorem fQ(s:List UInt8):bq prog 141 [.c (.d (.s s))] (.agg [.d (.i .i64 1),.d (.s s),.bI []]):=fun S=>by
 refine zcx [.cell 2 41] func141 ntmps141 ?_;simp -implicitDefEqProofs (disch:=omega) only[go_sem]
 first|done|exact⟨rfl,rfl⟩|rfl
theorem NG(s:List UInt8)(l:List ay){es:List (List D)}(he:es=l.map ay.enc)(hl:l.length<=1048576){a:C}(ha:a=.d (.sl es)\/a=.bI es)(S:Store):mY prog 94 [.c (.d (.s s)),.c a] S (KY (rD s l) S):=by
 subst he;refine Dg (rs:=[.cell 4 41]) zmx func94 ntmps94 rfl rfl rfl rfl rfl ?_;have hln:=Q8 l;rcases ha with rfl|rfl
 all_goals
  simp -implicitDefEqProofs (disch:=omega) only[go_sem];refine⟨hln,⟨_,rfl,rfl⟩,fun y hy=>absurd hy List.not_mem_nil,by omega,rfl,_,rfl,.inl ⟨1,rfl,rfl⟩⟩
theorem sw{f:FuncId}{args:List V}{S S':Store}{t:ay}(h:mY prog f args S (KY t S')):cB prog f args S (fun r S1=>r=.agg [.d (.i .i64 t.aR),.d (.s t.fName),.d (.sl (t.fArgs.map ay.enc))]/\S1=S'):=
 mY.plain (ND t) rfl h
theorem KZ{f:FuncId}{args:List V}{S S':Store}{t:ay}(ht:yO S'=true)(h:mY prog f args S (KY t S')):
 cB prog f args S (fun r S1=>r=.agg [.d (.i .i64 t.aR),.d (.s t.fName),.bX (0,wK S') (t.fArgs.map ay.enc)]/\S1=Hg S' [.tok 3 (t.fArgs.map ay.enc)]):=
 mY.push (ND t) rfl ht h
theorem wL(s:List UInt8)(l:List ay){es:List (List D)}(he:es=l.map ay.enc)(hl:l.length<=1048576){a:C}(ha:a=.d (.sl es)\/a=.bI es){own:List Ab.Obj}{Ω:Store}:
 cB prog 94 [.c (.d (.s s)),.c a] (own::Ω) (fun r S1=>r=.agg [.d (.i .i64 2),.d (.s s),.bX (0,own.length) es]/\S1=(own++[.tok 3 es])::Ω):=by
 have:=KZ (S':=own::Ω) rfl (NG s l he hl ha (own::Ω));rw[he];exact this
theorem vk(s:List UInt8)(l:List ay){es:List (List D)}(he:es=l.map ay.enc)(hl:l.length<=1048576){a:C}(ha:a=.d (.sl es)\/a=.bI es):bq prog 94 [.c (.d (.s s)),.c a] (.agg [.d (.i .i64 2),.d (.s s),.d (.sl es)]):=fun S=>by
 have:=sw (NG s l he hl ha S);rw[he];exact this
theorem Q9{bs:List Int}{xs:List (List UInt8)}(c:Cu bs)(hi:(aT (xs.length:Int) c).1.toNat<xs.length):xs[(aT (xs.length:Int) c).1.toNat]=(bP xs c).1:=by
 simp only[bP,List.getD,List.getElem?_eq_getElem hi,Option.getD_some]
theorem Ej{bs:List Int}(hB:Bytes bs){vars:List (List UInt8)}(hv:vars.length<=256):∀(n:Nat)(c:Cu bs)(l j:Nat)(S:Store),bg S (l,j)=some (.box (cur c))->n<=1048576->
 mY prog 132 [.c (.ptr (l,j) 0),.c (.d (.sl (vars.map encS))),.c (.d (.i .i64 n))] S (KY (kH vars n c).1 (aX S (l,j) (.box (cur (kH vars n c).2)))):=by
 intro n
 induction n with
 |zero=>
  intro c l j S hk hn;have g:∀x:Ab.Obj,bg (aX S (l,j) x) (l,j)=some x:=fun x=>dn _ _ _ _ hk;obtain⟨k,hkd⟩:∃k,k=(aT 8 c).1:=⟨_,rfl⟩;obtain⟨c1,hc1⟩:∃c1,c1=(aT 8 c).2:=⟨_,rfl⟩;rw[kH,<-hkd,<-hc1];refine Dg (rs:=[.cell 6 41]) zmx func132 ntmps132 rfl rfl rfl rfl rfl ?_;simp -implicitDefEqProofs (disch:=omega) only[go_sem];refine bn rfl (dY hB c (1+l) j _ 8 (by rw[aG];exact hk) (by omega) (by omega)) ?_;rw[<-hkd,<-hc1];have d0:decide (((0:Nat):Int)<=0)=true:=rfl;simp -implicitDefEqProofs (disch:=omega) only[go_sem,ak]
  with_reducible refine aD (fun hb=> ?_) (fun hb=> ?_)<;>have h:=hb<;>(try simp only[wf_preprocess] at h)<;>simp -implicitDefEqProofs (disch:=omega) only[go_sem,hb,d0,ak]<;>(repeat(with_reducible refine And.intro ?_ ?_;focus first|omega|rfl|assumption|exact⟨_,rfl,rfl⟩|(simp;omega)|(simp;done)))
  rotate_left
  rw[if_neg (by omega)]
  rotate_left
  with_reducible refine aD (fun hb=> ?_) (fun hb=> ?_)<;>have h:=hb<;>(try simp only[wf_preprocess] at h)<;>simp -implicitDefEqProofs (disch:=omega) only[go_sem,hb,d0,ak]<;>(repeat(with_reducible refine And.intro ?_ ?_;focus first|omega|rfl|assumption|exact⟨_,rfl,rfl⟩|(simp;omega)|(simp;done)))
  ·have hx:=iC (n:=vars.length) c1 (by omega)
   have hi:(aT (vars.length:Int) c1).1.toNat<vars.length:=by omega
   rw[if_pos ⟨by omega,by omega⟩];refine bn rfl (dY hB c1 (1+l) j _ vars.length (by rw[aG];exact g _) (by omega) (by omega)) ?_;simp -implicitDefEqProofs (disch:=omega) only[go_sem,ak,ah,encS]
   (repeat(with_reducible refine And.intro ?_ ?_;focus first|omega|rfl|assumption|exact⟨_,rfl,rfl⟩|(simp;omega)|(simp;done)))
   rw[Q9 c1 hi];refine aB (fQ (bP vars c1).1) ?_;simp -implicitDefEqProofs (disch:=omega) only[go_sem]<;>(repeat(with_reducible refine And.intro ?_ ?_;focus first|omega|rfl|assumption|exact⟨_,rfl,rfl⟩|(simp;omega)|(simp;done)));exact⟨rfl,_,rfl,.inr ⟨rfl,fun e he=>by cases he⟩⟩
  rw[if_neg (by omega)]
  all_goals with_reducible refine aD (fun hb=> ?_) (fun hb=> ?_)<;>have h:=hb<;>(try simp only[wf_preprocess] at h)<;>simp -implicitDefEqProofs (disch:=omega) only[go_sem,hb,d0,ak]<;>(repeat(with_reducible refine And.intro ?_ ?_;focus first|omega|rfl|assumption|exact⟨_,rfl,rfl⟩|(simp;omega)|(simp;done)))
  all_goals
   refine cu [true] rfl (dS hB c1 (1+l) j _ Ei (by rw[aG];exact g _) (by decide) (by decide)) ?_;simp -implicitDefEqProofs (disch:=omega) only[go_sem,ak,ah];refine bn rfl (wL _ [] rfl (Nat.zero_le _) (.inr rfl)) ?_;simp -implicitDefEqProofs (disch:=omega) only[go_sem,ak,ah];exact⟨rfl,_,rfl,.inl ⟨1,rfl,rfl⟩⟩
 |succ n ih=>
  intro c l j S hk hn;have g:∀x:Ab.Obj,bg (aX S (l,j) x) (l,j)=some x:=fun x=>dn _ _ _ _ hk;obtain⟨k,hkd⟩:∃k,k=(aT 8 c).1:=⟨_,rfl⟩;obtain⟨c1,hc1⟩:∃c1,c1=(aT 8 c).2:=⟨_,rfl⟩;have ih1:=fun c l j S hk=>sw (ih c l j S hk (by omega));rw[kH,<-hkd,<-hc1];refine Dg (rs:=[.cell 6 41]) zmx func132 ntmps132 rfl rfl rfl rfl rfl ?_;simp -implicitDefEqProofs (disch:=omega) only[go_sem];refine bn rfl (dY hB c (1+l) j _ 8 (by rw[aG];exact hk) (by omega) (by omega)) ?_;rw[<-hkd,<-hc1];have d0:decide (((n+1:Nat):Int)<=0)=false:=decide_eq_false (by omega)
  have d1:((n+1:Nat):Int)-1=(n:Int):=by omega
  simp -implicitDefEqProofs (disch:=omega) only[go_sem,ak]
  with_reducible refine aD (fun hb=> ?_) (fun hb=> ?_)<;>have h:=hb<;>(try simp only[wf_preprocess] at h)<;>simp -implicitDefEqProofs (disch:=omega) only[go_sem,hb,d0,ak]<;>(repeat(with_reducible refine And.intro ?_ ?_;focus first|omega|rfl|assumption|exact⟨_,rfl,rfl⟩|(simp;omega)|(simp;done)))
  rotate_left
  rw[if_neg (by omega)]
  rotate_left
  with_reducible refine aD (fun hb=> ?_) (fun hb=> ?_)<;>have h:=hb<;>(try simp only[wf_preprocess] at h)<;>simp -implicitDefEqProofs (disch:=omega) only[go_sem,hb,d0,ak]<;>(repeat(with_reducible refine And.intro ?_ ?_;focus first|omega|rfl|assumption|exact⟨_,rfl,rfl⟩|(simp;omega)|(simp;done)))
  ·have hx:=iC (n:=vars.length) c1 (by omega)
   have hi:(aT (vars.length:Int) c1).1.toNat<vars.length:=by omega
   rw[if_pos ⟨by omega,by omega⟩];refine bn rfl (dY hB c1 (1+l) j _ vars.length (by rw[aG];exact g _) (by omega) (by omega)) ?_;simp -implicitDefEqProofs (disch:=omega) only[go_sem,ak,ah,encS]
   (repeat(with_reducible refine And.intro ?_ ?_;focus first|omega|rfl|assumption|exact⟨_,rfl,rfl⟩|(simp;omega)|(simp;done)))
   rw[Q9 c1 hi];refine aB (fQ (bP vars c1).1) ?_;simp -implicitDefEqProofs (disch:=omega) only[go_sem]<;>(repeat(with_reducible refine And.intro ?_ ?_;focus first|omega|rfl|assumption|exact⟨_,rfl,rfl⟩|(simp;omega)|(simp;done)));exact⟨rfl,_,rfl,.inr ⟨rfl,fun e he=>by cases he⟩⟩
  rw[if_neg (by omega)]
  all_goals
   with_reducible refine aD (fun hb=> ?_) (fun hb=> ?_)<;>have h:=hb<;>(try simp only[wf_preprocess] at h)<;>simp -implicitDefEqProofs (disch:=omega) only[go_sem,hb,d0,ak]<;>(repeat(with_reducible refine And.intro ?_ ?_;focus first|omega|rfl|assumption|exact⟨_,rfl,rfl⟩|(simp;omega)|(simp;done)))
   ·rw[if_pos (by omega)];refine cu [true] rfl (dS hB c1 (1+l) j _ Ei (by rw[aG];exact g _) (by decide) (by decide)) ?_;simp -implicitDefEqProofs (disch:=omega) only[go_sem,ak,ah];refine bn rfl (wL _ [] rfl (Nat.zero_le _) (.inr rfl)) ?_;simp -implicitDefEqProofs (disch:=omega) only[go_sem,ak,ah];exact⟨rfl,_,rfl,.inl ⟨1,rfl,rfl⟩⟩
   rw[if_neg (by omega)]
   with_reducible refine aD (fun hb=> ?_) (fun hb=> ?_)<;>have h:=hb<;>(try simp only[wf_preprocess] at h)<;>simp -implicitDefEqProofs (disch:=omega) only[go_sem,hb,d1,ak]<;>(repeat(with_reducible refine And.intro ?_ ?_;focus first|omega|rfl|assumption|exact⟨_,rfl,rfl⟩|(simp;omega)|(simp;done)))
   ·rw[if_pos (by omega)];refine bn rfl (ih1 c1 (1+l) j _ (by rw[aG];exact g _)) ?_;simp -implicitDefEqProofs (disch:=omega) only[go_sem,d1,ak,ah];refine bn rfl (ih1 (kH vars n c1).2 (1+l) j _ (by rw[aG];exact g _)) ?_;simp -implicitDefEqProofs (disch:=omega) only[go_sem,ak,ah]
    (repeat(with_reducible refine And.intro ?_ ?_;focus first|omega|rfl|assumption|exact⟨_,rfl,rfl⟩|(simp;omega)|(simp;done)))
    refine bn rfl (wL _ [(kH vars n c1).1,(kH vars n (kH vars n c1).2).1] (by simp only[List.map_cons,List.map_nil,ay.aj]) (by simp) (.inr rfl)) ?_;simp -implicitDefEqProofs (disch:=omega) only[go_sem,ak,ah];refine⟨rfl,_,rfl,.inl ⟨1,?_,?_⟩⟩<;>simp only[rD,ay.fArgs,List.map_cons,List.map_nil,ay.aj]<;>rfl
   ·rw[if_neg (by omega)];refine cu [true] rfl (dS hB c1 (1+l) j _ BH (by rw[aG];exact g _) (by decide) (by decide)) ?_;simp -implicitDefEqProofs (disch:=omega) only[go_sem,d1,ak,ah];refine bn rfl (ih1 (bP BH c1).2 (1+l) j _ (by rw[aG];exact g _)) ?_;simp -implicitDefEqProofs (disch:=omega) only[go_sem,ak,ah]
    (repeat(with_reducible refine And.intro ?_ ?_;focus first|omega|rfl|assumption|exact⟨_,rfl,rfl⟩|(simp;omega)|(simp;done)))
    refine bn rfl (wL _ [(kH vars n (bP BH c1).2).1] (by simp only[List.map_cons,List.map_nil,ay.aj]) (by simp) (.inr rfl)) ?_;simp -implicitDefEqProofs (disch:=omega) only[go_sem,ak,ah];refine⟨rfl,_,rfl,.inl ⟨1,?_,?_⟩⟩<;>simp only[rD,ay.fArgs,List.map_cons,List.map_nil,ay.aj]<;>rfl
def EN:List (List UInt8):=[[97],[98]]
def F9:List (List UInt8):=[[97,100,100],[115,104,111,119]]
theorem Jh:eZ EN:=by unfold eZ;decide
theorem Tt:eZ F9:=by unfold eZ;decide
def Xi{bs:List Int}(t:ay)(c:Cu bs):ay×Cu bs:=
 if(aT 8 c).1=0 then(BG (bP F9 (aT 8 c).2).1 t,(bP F9 (aT 8 c).2).2) else
 if(aT 8 c).1=1 then(rD [108,105,115,116] [BG [97,100,100] t],(aT 8 c).2) else
 if(aT 8 c).1=2 then(adt [115,104,111,119],(aT 8 c).2) else(t,(aT 8 c).2)
def pJ{bs:List Int}(n:Nat)(c:Cu bs):ay×Cu bs:=Xi (kH EN n c).1 (kH EN n c).2
def rE:ay:=rD [105,110,116] []
theorem Uu(s:List UInt8)(t:ay):(BG s t).sz=s.length+1+t.sz:=by
 have:=ay.cK t;simp only[BG,ay.sz,ay.aj,bF,D.sz,aI,ay.fName,ay.fArgs,List.map_cons,List.map_nil,List.length_cons,List.length_nil] at this ⊢;omega
theorem ahW(s:List UInt8):(adt s).sz=s.length:=by simp[adt,ay.sz,ay.aj,bF,D.sz,aI,ay.fName,ay.fArgs]
theorem AU{bs:List Int}(n:Nat)(c:Cu bs):(pJ n c).1.sz<=18*2^n+10:=by
 have h:=F8 Jh n c;unfold pJ Xi;split
 ·have:=gP (aT 8 (kH EN n c).2).2 Tt;simp only[Uu];omega
 split
 ·simp only[Hl,Uu,List.length_cons,List.length_nil];omega
 split
 ·simp only[ahW,List.length_cons,List.length_nil];omega
 ·show(kH EN n c).1.sz<=_;omega
theorem NH(s:List UInt8)(t:ay)(h:t.sz<=4194304):bq prog 133 [.c (.d (.s s)),t.v] (.agg [.d (.i .i64 3),.d (.s s),.bI ([t].map ay.enc)]):=fun S=>by
 refine zcx [.cell 4 41] func133 ntmps133 ?_;simp -implicitDefEqProofs (disch:=omega) only[go_sem];refine aB (Z4 t h) ?_;simp -implicitDefEqProofs (disch:=omega) only[go_sem]<;>(repeat(with_reducible refine And.intro ?_ ?_;focus first|omega|rfl|assumption|exact⟨_,rfl,rfl⟩|(simp;omega)|(simp;done)))
theorem jA:bq prog 92 [] rE.v:=fun S=>by
 refine zcx [.cell 0 41] func92 ntmps92 ?_;simp -implicitDefEqProofs (disch:=omega) only[go_sem];refine aB (vk [105,110,116] [] rfl (Nat.zero_le _) (.inl rfl)) ?_;simp -implicitDefEqProofs (disch:=omega) only[go_sem]
 first|done|exact⟨rfl,rfl⟩|rfl
theorem Xj{bs:List Int}(hB:Bytes bs)(n:Nat)(c:Cu bs)(l j:Nat)(S:Store)(hk:bg S (l,j)=some (.box (cur c)))(hn:n<=16):
 mY prog 91 [.c (.ptr (l,j) 0),.c (.d (.i .i64 n))] S (KY (pJ n c).1 (aX S (l,j) (.box (cur (pJ n c).2)))):=by
 have g:∀x:Ab.Obj,bg (aX S (l,j) x) (l,j)=some x:=fun x=>dn _ _ _ _ hk;unfold pJ;obtain⟨t,ht⟩:∃t,t=(kH EN n c).1:=⟨_,rfl⟩;obtain⟨c1,hc1⟩:∃c1,c1=(kH EN n c).2:=⟨_,rfl⟩
 have hsz:t.sz<=4194304:=by
  have:=F8 Jh n c;have h2:2^n<=2^16:=Nat.pow_le_pow_right (by omega) hn;rw[ht];omega
 rw[<-ht,<-hc1];unfold Xi;obtain⟨k,hkd⟩:∃k,k=(aT 8 c1).1:=⟨_,rfl⟩;obtain⟨c2,hc2⟩:∃c2,c2=(aT 8 c1).2:=⟨_,rfl⟩;rw[<-hkd,<-hc2];refine Us [67] (rs:=[.cell 4 41]) zmx func91 ntmps91 rfl rfl rfl rfl rfl ?_;simp -implicitDefEqProofs (disch:=omega) only[go_sem]
 have h1:=KZ (S':=[.box [.d (.i .i64 0),.d (.s []),.bI []]]::aX S (l,j) (.box (cur (kH EN n c).2))) rfl (by
  have:=Ej hB (vars:=EN) (by decide) n c (1+l) j ([.box [.d (.i .i64 0),.d (.s []),.bI []]]::S) (by rw[aG];exact hk) (by omega);rw[ak] at this
  exact this)
 rw[<-ht,<-hc1] at h1;refine cu [true] rfl h1 ?_;simp -implicitDefEqProofs (disch:=omega) only[go_sem,ak];refine bn rfl (dY hB c1 (1+l) j _ 8 (by rw[aG];exact g _) (by omega) (by omega)) ?_;rw[<-hkd,<-hc2];simp -implicitDefEqProofs (disch:=omega) only[go_sem,ak,ah]
 with_reducible refine aD (fun hb=> ?_) (fun hb=> ?_)<;>have h:=hb<;>(try simp only[wf_preprocess] at h)<;>simp -implicitDefEqProofs (disch:=omega) only[go_sem,hb,ak,ah]<;>(repeat(with_reducible refine And.intro ?_ ?_;focus first|omega|rfl|assumption|exact⟨_,rfl,rfl⟩|(simp;omega)|(simp;done)))
 ·rw[if_pos h];refine cu [true] rfl (dS hB c2 (1+l) j _ F9 (by rw[aG];exact g _) (by decide) (by decide)) ?_;simp -implicitDefEqProofs (disch:=omega) only[go_sem,ak,ah];refine aB (NH (bP F9 c2).1 t hsz) ?_;simp -implicitDefEqProofs (disch:=omega) only[go_sem,ak,ah];refine⟨by cases l<;>rfl,?_⟩;simp -implicitDefEqProofs (disch:=omega) only[go_sem,ak,ah];exact⟨rfl,_,rfl,.inr ⟨by simp[BG,ay.fArgs,ay.aj],Q8 [t]⟩⟩
 rw[if_neg h]
 with_reducible refine aD (fun hb=> ?_) (fun hb=> ?_)<;>have h:=hb<;>(try simp only[wf_preprocess] at h)<;>simp -implicitDefEqProofs (disch:=omega) only[go_sem,hb,ak,ah]<;>(repeat(with_reducible refine And.intro ?_ ?_;focus first|omega|rfl|assumption|exact⟨_,rfl,rfl⟩|(simp;omega)|(simp;done)))
 ·rw[if_pos h];refine aB (NH [97,100,100] t hsz) ?_;simp -implicitDefEqProofs (disch:=omega) only[go_sem,ak,ah]
  (repeat(with_reducible refine And.intro ?_ ?_;focus first|omega|rfl|assumption|exact⟨_,rfl,rfl⟩|(simp;omega)|(simp;done)))
  refine bn rfl (wL _ [BG [97,100,100] t] (by simp[BG,ay.aj,ay.aR,ay.fName,ay.fArgs]) (by simp) (.inr rfl)) ?_;simp -implicitDefEqProofs (disch:=omega) only[go_sem,ak,ah];refine⟨rfl,_,rfl,.inl ⟨3,?_,?_⟩⟩<;>simp[rD,BG,ay.aj,ay.aR,ay.fName,ay.fArgs]
 rw[if_neg h]
 with_reducible refine aD (fun hb=> ?_) (fun hb=> ?_)<;>have h:=hb<;>(try simp only[wf_preprocess] at h)<;>simp -implicitDefEqProofs (disch:=omega) only[go_sem,hb,ak,ah]<;>(repeat(with_reducible refine And.intro ?_ ?_;focus first|omega|rfl|assumption|exact⟨_,rfl,rfl⟩|(simp;omega)|(simp;done)))
 ·rw[if_pos h];exact⟨rfl,_,rfl,.inr ⟨rfl,fun e he=>by cases he⟩⟩
 rw[if_neg h];exact⟨rfl,_,rfl,.inl ⟨1,rfl,rfl⟩⟩
theorem iF{bs:List Int}(hB:Bytes bs)(n:Nat)(c:Cu bs)(l j:Nat)(S:Store)(hk:bg S (l,j)=some (.box (cur c)))(hn:n<=16):
 cB prog 91 [.c (.ptr (l,j) 0),.c (.d (.i .i64 n))] S (fun r S1=>r=(pJ n c).1.v/\S1=aX S (l,j) (.box (cur (pJ n c).2))):=
 sw (Xj hB n c l j S hk hn)
section
variable {w:World} {σ:Nat->Nat}
def OP:C->Option D
 | .d d=>some d
 | .bI es=>some (.sl es)
 | .bX _ es=>some (.sl es)
 |_=>none
theorem aad{S S':Store}{β β':Hs}{c:C}{d:D}{v:Value}(h:OP c=some d)(hr:gF w σ S β c v):gF w σ S' β' (.d d) v:=by
 cases c<;>simp only[OP,Option.some.injEq] at h<;>first|(cases h;done)|(subst h;first|exact hr|exact hr.1)
theorem Ga{S S':Store}{β β':Hs}{pre:List C}{ds:List D}{x x' y y':C}{a:List Value}(h1:pre.map OP=ds.map some)(hr:fD w σ S β (pre++[x,y]) a)
 (hx:∀v,a[pre.length]? =some v->gF w σ S β x v->gF w σ S' β' x' v)(hy:∀v,a[pre.length+1]? =some v->gF w σ S β y v->gF w σ S' β' y' v):fD w σ S' β' (ds.map .d++[x',y']) a:=by
 have hl:pre.length=ds.length:=by have:=congrArg List.length h1;simpa using this
 refine⟨by have:=hr.1;simp only[List.length_append,List.length_map,List.length_cons,List.length_nil,hl] at this ⊢;exact this,fun j c hc=> ?_⟩;rcases Nat.lt_or_ge j pre.length with hj|hj
 ·rw[List.getElem?_append_left (by simp;omega),List.getElem?_map] at hc;obtain⟨d,hd,rfl⟩:=Option.map_eq_some_iff.1 hc;have hp:=congrArg (fun l=>l[j]?) h1;simp only[List.getElem?_map,hd,Option.map_some,List.getElem?_eq_getElem hj] at hp;obtain⟨v,e1,e2,e3⟩:=hr.2 j pre[j] (by rw[List.getElem?_append_left hj,List.getElem?_eq_getElem hj]);exact⟨v,e1,aad (Option.some.inj hp) e2,e3⟩
 obtain⟨k,rfl⟩:∃k,j=pre.length+k:=⟨j-pre.length,by omega⟩;rw[List.getElem?_append_right (by simp;omega),List.length_map,<-hl,Nat.add_sub_cancel_left] at hc
 match k,hc with
 |0,hc=>
  cases hc;obtain⟨v,e1,e2,e3⟩:=hr.2 pre.length x (by rw[List.getElem?_append_right (Nat.le_refl _),Nat.sub_self];rfl);exact⟨v,e1,hx v e1 e2,e3⟩
 |1,hc=>
  cases hc;obtain⟨v,e1,e2,e3⟩:=hr.2 (pre.length+1) y (by rw[List.getElem?_append_right (by omega),Nat.add_sub_cancel_left];rfl);exact⟨v,e1,hy v e1 e2,e3⟩
 |k+2,hc=>simp at hc
end
section
variable {P:Program} {S S':Store} {f:FuncId} {args:List V}
def Two(ds:List D)(z z':Nat)(es es':List (List D))(S':Store)(r:V)(own:List Obj)(S1:Store):Prop:=S1=S'/\∃pre x y,r=.agg (pre++[x,y])/\pre.map OP=ds.map some/\Cm own x z es/\Cm own y z' es'
theorem mY.ahX{ds:List D}{z z':Nat}{es es':List (List D)}(h:mY P f args S (Two ds z z' es es' S')):
 cB P f args S fun r S1=>r=.agg (ds.map .d++[.d (.sl es),.d (.sl es')])/\S1=S':=by
 refine⟨h.1,fun w σ β vs hS hv=>(h.2 w σ β vs hS hv).mono fun e w' ⟨v,r,own,S1,bo,β1,σ',q1,q2,q3,q4,q5,q6,pre,x,y,q7,h1,q8,q9⟩=> ?_⟩;subst q6 q7;obtain⟨a,rfl,hc⟩:=q5;exact⟨_,.agg (ds.map .d++[.d (.sl es),.d (.sl es')]),S1,σ',β1,q1,q2.Dx,q3,⟨q4.size,q4.os,q4.output,q4.far,q4.near,fun b hb=>q4.own b (sV hb)⟩,⟨a,rfl,Ga (x':=.d (.sl es)) (y':=.d (.sl es')) h1 hc (fun v e1 e2=>tV q8 e2) (fun v e1 e2=>tV q9 e2)⟩,rfl,rfl⟩
theorem mY.ajV{ds:List D}{z z':Nat}{es es':List (List D)}(hz:z≠z')(ht:yO S'=true)(h:mY P f args S (Two ds z z' es es' S')):
 cB P f args S fun r S1=>r=.agg (ds.map .d++[.bX (0,wK S') es,.bX (0,wK S'+1) es'])/\S1=Hg S' [.tok z es,.tok z' es']:=by
 refine⟨h.1,fun w σ β vs hS hv=>(h.2 w σ β vs hS hv).mono fun e w' ⟨v,r,own,S1,bo,β1,σ',q1,q2,q3,q4,q5,q6,pre,x,y,q7,h1,q8,q9⟩=> ?_⟩;subst q6 q7;obtain⟨a,rfl,hc⟩:=q5;obtain⟨u,e1,e2,e3⟩:=hc.2 pre.length x (by rw[List.getElem?_append_right (Nat.le_refl _),Nat.sub_self];rfl);obtain⟨u',HY,e2',e3'⟩:=hc.2 (pre.length+1) y (by rw[List.getElem?_append_right (by omega),Nat.add_sub_cancel_left];rfl);obtain⟨k1,k2⟩:=Eh q2 q8 e2;obtain⟨k1',k2'⟩:=Eh q2 q9 e2'
 cases S1 with
 |nil=>cases ht
 |cons fr Ω=>
 have hd:=q2.Dx
 obtain⟨bf,bΩ,rfl,hlen⟩:∃bf bΩ,β1=bf::bΩ/\bf.length=fr.length:=by
  cases β1 with
  |nil=>have:=hd.shape.1;simp at this
  |cons bf bΩ=>
   refine⟨bf,bΩ,rfl,?_⟩;obtain⟨gr,q1,q2⟩:=hd.shape.2 0 fr rfl;simp at q1;rw[q1];exact q2
 obtain⟨l1,l2,l3⟩:=hd.lay (o:=.tok z es) (h:=u) hlen (k1 _ _) fun b hb ⟨k,o,hh,f1,f2,f3⟩=>by
  obtain⟨m,g1,g2,g3⟩:=k2 b hb;have:=q2.apart (0,m) (k.1+1,k.2) _ o u hh b (by rw[bD];exact g1) (by rw[bD];exact g3) hb (by rw[bY];exact f1) (by rw[bY];exact f2) f3;cases this
 obtain⟨l4,l5,l6⟩:=l1.lay (o:=.tok z' es') (h:=u') (by simp[hlen]) (k1' _ _) fun b hb ⟨k,o,hh,f1,f2,f3⟩=>by
  obtain⟨m',g1',g2',g3'⟩:=k2' b hb;rcases l3 b ⟨k,o,hh,f1,f2,f3⟩ with⟨k,o,hh,f1,f2,f3⟩|q
  ·have:=q2.apart (0,m') (k.1+1,k.2) _ o u' hh b (by rw[bD];exact g1') (by rw[bD];exact g3') hb (by rw[bY];exact f1) (by rw[bY];exact f2) f3;cases this
  ·obtain⟨m,g1,g2,g3⟩:=k2 b q;have:=q2.apart (0,m') (0,m) _ _ u' u b (by rw[bD];exact g1') (by rw[bD];exact g3') hb (by rw[bD];exact g1) (by rw[bD];exact g3) q;cases this;rw[g1] at g1';injection g1' with g1';injection g1' with g1';exact hz g1'
 have el:(fr++[Obj.tok z es]).length=fr.length+1:=by simp
 refine⟨_,.agg (ds.map .d++[.bX (0,wK (fr::Ω)) es,.bX (0,wK (fr::Ω)+1) es']),_,σ',_,q1,l4,(q3.trans l2).trans l5,⟨q4.size,q4.os,q4.output,q4.far,q4.near,fun b hb=> ?_⟩,⟨a,rfl,Ga h1 hc (fun v f1 f2=> ?_) fun v f1 f2=> ?_⟩,rfl,?_⟩
 ·rcases l6 b hb with q|q
  ·rcases l3 b q with q|q
   ·exact q4.own b (sV q)
   ·obtain⟨m,g1,g2,g3⟩:=k2 b q;exact q4.own b ⟨(0,m),_,u,by rw[bD];exact g1,by rw[bD];exact g3,q⟩
  ·obtain⟨m,g1,g2,g3⟩:=k2' b q;exact q4.own b ⟨(0,m),_,u',by rw[bD];exact g1,by rw[bD];exact g3,q⟩
 ·rw[e1] at f1;cases f1;refine⟨tV q8 e2,.tok z es,?_,fun aY es' e=> ?_⟩
  ·rw[mP,bD,List.getElem?_append_left (by simp),List.getElem?_append_right (Nat.le_refl _),Nat.sub_self];rfl
  obtain⟨_,rfl⟩:=pX (lab:=none) e;refine⟨Nat.le_refl _,fun _=> ?_⟩;rw[mP,bD,<-hlen,List.getElem?_append_left (by simp),List.getElem?_append_right (Nat.le_refl _),Nat.sub_self];rfl
 ·rw[HY] at f1;cases f1;refine⟨tV q9 e2',.tok z' es',?_,fun aY es' e=> ?_⟩
  ·rw[mP,<-el];exact dH _ _ _
  obtain⟨_,rfl⟩:=pX (lab:=none) e;refine⟨Nat.le_refl _,fun _=> ?_⟩;rw[mP,<-el,show(fr++[Obj.tok z es]).length=(bf++[u]).length by simp[hlen]];exact dH _ _ _
 ·rw[zF,List.append_assoc];rfl
end
def zT:ay:=.mk 0 [] []
def kL(n:Int):aC:=.mk 1 [] [] n zT [] []
def uj(n:Int):aC:=.mk 2 [] [] n zT [] []
def uD(s:List UInt8):aC:=.mk 3 [] s 0 zT [] []
def nR(k:Int)(s:List UInt8)(l:List aC):aC:=.mk k [] s 0 zT l []
def vL:List (List UInt8):=[[102],[103]]
def yh:List (List UInt8):=[[115,104,111,119],[97,100,100]]
def um:List (List UInt8):=[[43],[45],[42],[60],[61]]
theorem Ra:eZ vL:=by unfold eZ;decide
theorem Xk:eZ yh:=by unfold eZ;decide
theorem Xl:eZ um:=by unfold eZ;decide
def aL:List (List UInt8):=[[97]]
theorem afX:eZ aL:=by unfold eZ;decide
def kG{bs:List Int}(k:Int)(sub:List (List UInt8)->Cu bs->aC×Cu bs)(vars:List (List UInt8))(c:Cu bs):aC×Cu bs:=
 if k=1 then(uj (aT 2 c).1,(aT 2 c).2) else
 if(k=2\/k=3)/\0<vars.length then(uD (bP vars c).1,(bP vars c).2) else
 if k=4 then(nR 4 (bP vL c).1 [(sub vars (bP vL c).2).1],(sub vars (bP vL c).2).2) else
 if k=5 then(.mk 5 (bP yh c).1 [109] 0 zT [(sub vars (bP yh c).2).1,(sub vars (sub vars (bP yh c).2).2).1] [],(sub vars (sub vars (bP yh c).2).2).2) else
 if k=6 then(nR 6 [99,111,110,115] [(sub vars c).1,(sub vars (sub vars c).2).1],(sub vars (sub vars c).2).2) else
 if k=7 then(.mk 7 [] [] 0 zT [(sub vars c).1] [.mk [110,105,108] [] (sub vars (sub vars c).2).1,.mk [99,111,110,115] [[104],[116]] (sub (vars++[[104],[116]]) (sub vars (sub vars c).2).2).1],(sub (vars++[[104],[116]]) (sub vars (sub vars c).2).2).2) else
 if k=8 then(nR 8 [121] [(sub vars c).1,(sub (vars++[[121]]) (sub vars c).2).1],(sub (vars++[[121]]) (sub vars c).2).2) else
 if k=9 then(nR 9 [] [(sub vars c).1,(sub vars (sub vars c).2).1,(sub vars (sub vars (sub vars c).2).2).1],(sub vars (sub vars (sub vars c).2).2).2) else
 if k=10 then(nR 10 (bP um c).1 [(sub vars (bP um c).2).1,(sub vars (sub vars (bP um c).2).2).1],(sub vars (sub vars (bP um c).2).2).2) else
 if k=11 then(.mk 11 [115,104,111,119] [] 0 zT [(sub vars c).1] [],(sub vars c).2) else
 if k=12 then(.mk 12 [] [] 0 (kH aL 1 c).1 [(sub vars (kH aL 1 c).2).1] [],(sub vars (kH aL 1 c).2).2) else
 (kL ((aT 20 c).1-5),(aT 20 c).2)
def gT{bs:List Int}:Nat->List (List UInt8)->Cu bs->aC×Cu bs
 |0,vars,c=>kG ((aT 13 c).1.tmod 3) (fun _ c=>(kL 0,c)) vars (aT 13 c).2
 |n+1,vars,c=>kG (aT 13 c).1 (gT n) vars (aT 13 c).2
theorem eZ.append{a b:List (List UInt8)}(h:eZ a)(k:eZ b):eZ (a++b):=fun s hs=>(List.mem_append.1 hs).elim (h s) (k s)
theorem lT(k:Int)(t s:List UInt8)(n:Int)(ty:ay)(a:List aC)(b:List aZ):(aC.mk k t s n ty a b).sz=t.length+s.length+ty.sz+a.length+aI (a.map aC.enc)+b.length+aI (b.map aZ.enc):=by
 have:=ay.cK ty;simp only[aC.sz,aC.aj,bF,bL,D.sz,List.length_map,aC.aR,aC.bU,aC.fName,aC.fN,aC.fType,aC.fArgs,aC.bE,this];omega
theorem rV(s:List UInt8)(v:List (List UInt8))(b:aC):bF (aZ.mk s v b).enc=s.length+v.length+aI (v.map encS)+b.sz:=by
 have:=aC.cK b;simp only[aZ.aj,bF,bL,D.sz,List.length_map,aZ.fK,aZ.aO,aZ.fBody,this];omega
theorem nK:zT.sz=0:=by simp[zT,ay.sz,ay.aj,bF,D.sz,aI,ay.fName,ay.fArgs]
theorem Rb{bs:List Int}{k:Int}{sub:List (List UInt8)->Cu bs->aC×Cu bs}{vars:List (List UInt8)}{m:Nat}(hv:eZ vars)(hs:∀v c,eZ v->(sub v c).1.sz<=m)(c:Cu bs):(kG k sub vars c).1.sz<=3*m+40:=by
 have h1:=fun c=>hs vars c hv;have h2:=fun c=>hs (vars++[[104],[116]]) c (hv.append (by unfold eZ;decide));have h3:=fun c=>hs (vars++[[121]]) c (hv.append (by unfold eZ;decide));unfold kG;by_cases e0:k=1
 ·rw[if_pos e0];simp only[uj,uD,nR,kL,lT,rV,nK,List.map_cons,List.map_nil,List.length_cons,List.length_nil,aI,aC.cK,encS,bF,D.sz];omega
 rw[if_neg e0];by_cases e1:(k=2\/k=3)/\0<vars.length
 ·rw[if_pos e1];simp only[uj,uD,nR,kL,lT,rV,nK,List.map_cons,List.map_nil,List.length_cons,List.length_nil,aI,aC.cK,encS,bF,D.sz];have:=gP c hv;omega
 rw[if_neg e1];by_cases e2:k=4
 ·rw[if_pos e2];simp only[uj,uD,nR,kL,lT,rV,nK,List.map_cons,List.map_nil,List.length_cons,List.length_nil,aI,aC.cK,encS,bF,D.sz];have:=gP c Ra;have:=h1 (bP vL c).2;omega
 rw[if_neg e2];by_cases e3:k=5
 ·rw[if_pos e3];simp only[uj,uD,nR,kL,lT,rV,nK,List.map_cons,List.map_nil,List.length_cons,List.length_nil,aI,aC.cK,encS,bF,D.sz];have:=gP c Xk;have:=h1 (bP yh c).2;have:=h1 (sub vars (bP yh c).2).2;omega
 rw[if_neg e3];by_cases e4:k=6
 ·rw[if_pos e4];simp only[uj,uD,nR,kL,lT,rV,nK,List.map_cons,List.map_nil,List.length_cons,List.length_nil,aI,aC.cK,encS,bF,D.sz];have:=h1 c;have:=h1 (sub vars c).2;omega
 rw[if_neg e4];by_cases e5:k=7
 ·rw[if_pos e5];simp only[uj,uD,nR,kL,lT,rV,nK,List.map_cons,List.map_nil,List.length_cons,List.length_nil,aI,aC.cK,encS,bF,D.sz];have:=h1 c;have:=h1 (sub vars c).2;have:=h2 (sub vars (sub vars c).2).2;omega
 rw[if_neg e5];by_cases e6:k=8
 ·rw[if_pos e6];simp only[uj,uD,nR,kL,lT,rV,nK,List.map_cons,List.map_nil,List.length_cons,List.length_nil,aI,aC.cK,encS,bF,D.sz];have:=h1 c;have:=h3 (sub vars c).2;omega
 rw[if_neg e6];by_cases e7:k=9
 ·rw[if_pos e7];simp only[uj,uD,nR,kL,lT,rV,nK,List.map_cons,List.map_nil,List.length_cons,List.length_nil,aI,aC.cK,encS,bF,D.sz];have:=h1 c;have:=h1 (sub vars c).2;have:=h1 (sub vars (sub vars c).2).2;omega
 rw[if_neg e7];by_cases e8:k=10
 ·rw[if_pos e8];simp only[uj,uD,nR,kL,lT,rV,nK,List.map_cons,List.map_nil,List.length_cons,List.length_nil,aI,aC.cK,encS,bF,D.sz];have:=gP c Xl;have:=h1 (bP um c).2;have:=h1 (sub vars (bP um c).2).2;omega
 rw[if_neg e8];by_cases e9:k=11
 ·rw[if_pos e9];simp only[uj,uD,nR,kL,lT,rV,nK,List.map_cons,List.map_nil,List.length_cons,List.length_nil,aI,aC.cK,encS,bF,D.sz];have:=h1 c;omega
 rw[if_neg e9];by_cases e10:k=12
 ·rw[if_pos e10];simp only[uj,uD,nR,kL,lT,rV,nK,List.map_cons,List.map_nil,List.length_cons,List.length_nil,aI,aC.cK,encS,bF,D.sz];have:=F8 afX 1 c;have:=h1 (kH aL 1 c).2;omega
 rw[if_neg e10];simp only[uj,uD,nR,kL,lT,rV,nK,List.map_cons,List.map_nil,List.length_cons,List.length_nil,aI,aC.cK,encS,bF,D.sz];omega
theorem Ji{bs:List Int}:∀(n:Nat)(vars:List (List UInt8))(c:Cu bs),eZ vars->(gT n vars c).1.sz+20<=60*3^n
 |0,vars,c,hv=>by
  have:=Rb (k:=(aT 13 c).1.tmod 3) (sub:=fun _ c=>(kL 0,c)) (m:=0) hv (fun v c _=>by simp[kL,lT,nK,aI]) (aT 13 c).2;rw[gT];omega
 |n+1,vars,c,hv=>by
  have ih:=Ji n (bs:=bs);have:=Rb (k:=(aT 13 c).1) (sub:=gT n) (m:=60*3^n-20) hv (fun v c h=>by have:=ih v c h;omega) (aT 13 c).2;have h1:1<=3^n:=Nat.one_le_pow _ _ (by omega);rw[gT,Nat.pow_succ];omega
theorem rF(k:Int)(t s:List UInt8)(n:Int)(ty:ay)(a:List aC)(b:List aZ):(aC.mk k t s n ty a b).fArgs=a:=rfl
theorem rG(k:Int)(t s:List UInt8)(n:Int)(ty:ay)(a:List aC)(b:List aZ):(aC.mk k t s n ty a b).bE=b:=rfl
theorem uo(s:List UInt8)(v:List (List UInt8))(b:aC):(aZ.mk s v b).enc=.s s:: .sl (v.map encS)::b.enc:=by rw[aZ.aj];rfl
def exP(t:aC):List D:=[.i .i64 t.aR,.s t.bU,.s t.fName,.i .i64 t.fN,.i .i64 t.fType.aR,.s t.fType.fName,.sl (t.fType.fArgs.map ay.enc)]
def OQ(t:aC)(S':Store):V->List Obj->Store->Prop:=Two (exP t) 9 11 (t.fArgs.map aC.enc) (t.bE.map aZ.enc) S'
theorem AV(l:List aC):∀y∈l.map aC.enc,y.length=9:=by
 intro y hy;obtain⟨x,_,rfl⟩:=List.mem_map.1 hy;exact aC.cZ x
theorem adv(l:List aZ):∀y∈l.map aZ.enc,y.length=11:=by
 intro y hy;obtain⟨x,_,rfl⟩:=List.mem_map.1 hy;exact aZ.cZ x
theorem pK(n:Int):bq prog 144 [.c (.d (.i .i64 n))] (.agg [.d (.i .i64 1),.d (.s []),.d (.s []),.d (.i .i64 n),.d (.i .i64 0),.d (.s []),.bI [],.bI [],.bI []]):=fun S=>by
 refine zcx [.cell 2 115] func144 ntmps144 ?_;simp -implicitDefEqProofs (disch:=omega) only[go_sem]
 first|done|exact⟨rfl,rfl⟩|rfl
theorem tX(s:List UInt8):bq prog 143 [.c (.d (.s s))] (.agg [.d (.i .i64 3),.d (.s []),.d (.s s),.d (.i .i64 0),.d (.i .i64 0),.d (.s []),.bI [],.bI [],.bI []]):=fun S=>by
 refine zcx [.cell 2 115] func143 ntmps143 ?_;simp -implicitDefEqProofs (disch:=omega) only[go_sem]
 first|done|exact⟨rfl,rfl⟩|rfl
theorem BI(k:Int)(s:List UInt8)(l:List aC){es:List (List D)}(he:es=l.map aC.enc)(hl:l.length<=1048576){a:C}(ha:a=.d (.sl es)\/a=.bI es)(S:Store):mY prog 142 [.c (.d (.i .i64 k)),.c (.d (.s s)),.c a] S (OQ (nR k s l) S):=by
 subst he;refine Dg (rs:=[.cell 6 115]) zmx func142 ntmps142 rfl rfl rfl rfl rfl ?_;have hln:=AV l;rcases ha with rfl|rfl
 all_goals
  simp -implicitDefEqProofs (disch:=omega) only[go_sem];refine⟨hln,⟨_,rfl,rfl⟩,fun y hy=>absurd hy List.not_mem_nil,by omega,rfl,[_,_,_,_,_,_,_],_,_,rfl,rfl,.inl ⟨1,rfl,rfl⟩,.inr ⟨rfl,fun e he=>by cases he⟩⟩
theorem jm{f:FuncId}{args:List V}{S S':Store}{t:aC}(h:mY prog f args S (OQ t S')):cB prog f args S (fun r S1=>r=t.v/\S1=S'):=
 mY.ahX h
theorem Xm{f:FuncId}{args:List V}{S S':Store}{t:aC}(ht:yO S'=true)(h:mY prog f args S (OQ t S')):
 cB prog f args S (fun r S1=>r=.agg [.d (.i .i64 t.aR),.d (.s t.bU),.d (.s t.fName),.d (.i .i64 t.fN),.d (.i .i64 t.fType.aR),.d (.s t.fType.fName),.d (.sl (t.fType.fArgs.map ay.enc)),.bX (0,wK S') (t.fArgs.map aC.enc),.bX (0,wK S'+1) (t.bE.map aZ.enc)]/\S1=Hg S' [.tok 9 (t.fArgs.map aC.enc),.tok 11 (t.bE.map aZ.enc)]):=
 mY.ajV (by decide) ht h
theorem wN(k:Int)(s:List UInt8)(l:List aC){es:List (List D)}(he:es=l.map aC.enc)(hl:l.length<=1048576){a:C}(ha:a=.d (.sl es)\/a=.bI es){own:List Ab.Obj}{Ω:Store}:
 cB prog 142 [.c (.d (.i .i64 k)),.c (.d (.s s)),.c a] (own::Ω) (fun r S1=>r=.agg [.d (.i .i64 k),.d (.s []),.d (.s s),.d (.i .i64 0),.d (.i .i64 0),.d (.s []),.d (.sl []),.bX (0,own.length) es,.bX (0,own.length+1) []]/\S1=(own++[.tok 9 es,.tok 11 []])::Ω):=by
 have:=Xm (S':=own::Ω) rfl (BI k s l he hl ha (own::Ω));rw[he];exact this
theorem mE{bs:List Int}(hB:Bytes bs):∀(n:Nat)(vars:List (List UInt8))(c:Cu bs)(l j:Nat)(S:Store),vars.length+2*n<=256->bg S (l,j)=some (.box (cur c))->
 mY prog 145 [.c (.ptr (l,j) 0),.c (.d (.sl (vars.map encS))),.c (.d (.i .i64 n))] S (OQ (gT n vars c).1 (aX S (l,j) (.box (cur (gT n vars c).2)))):=by
 intro n
 induction n with
 |zero=>
  intro vars c l j S hv hk;have g:∀x:Ab.Obj,bg (aX S (l,j) x) (l,j)=some x:=fun x=>dn _ _ _ _ hk;have hx:=iC (n:=13) c (by omega);have hy:=Int.tmod_lt_of_pos (aT 13 c).1 (b:=3) (by omega);have hz:=Int.tmod_nonneg 3 hx.1;obtain⟨k,hkd⟩:∃k,k=(aT 13 c).1.tmod 3:=⟨_,rfl⟩;obtain⟨c1,hc1⟩:∃c1,c1=(aT 13 c).2:=⟨_,rfl⟩;rw[gT,<-hkd,<-hc1];obtain⟨q,hq⟩:∃q,q=kG k (fun _ c=>(kL 0,c)) vars c1:=⟨_,rfl⟩;rw[<-hq];refine Dg (rs:=[.cell 6 115]) zmx func145 ntmps145 rfl rfl rfl rfl rfl ?_;simp -implicitDefEqProofs (disch:=omega) only[go_sem];refine bn rfl (dY hB c (1+l) j _ 13 (by rw[aG];exact hk) (by omega) (by omega)) ?_;rw[<-hc1];have d0:decide (((0:Nat):Int)<=0)=true:=rfl;simp -implicitDefEqProofs (disch:=omega) only[go_sem,d0,ak]
  (repeat(with_reducible refine And.intro ?_ ?_;focus first|omega|rfl|assumption|exact⟨_,rfl,rfl⟩|(simp;omega)|(simp;done)))
  rw[<-hkd] at hy hz ⊢;have d1:k<3:=hy;have n3:decide (k=3)=false:=decide_eq_false (by omega);have n4:decide (k=4)=false:=decide_eq_false (by omega);have n5:decide (k=5)=false:=decide_eq_false (by omega);have n6:decide (k=6)=false:=decide_eq_false (by omega);have n7:decide (k=7)=false:=decide_eq_false (by omega);have n8:decide (k=8)=false:=decide_eq_false (by omega);have n9:decide (k=9)=false:=decide_eq_false (by omega);have n10:decide (k=10)=false:=decide_eq_false (by omega);have n11:decide (k=11)=false:=decide_eq_false (by omega);have n12:decide (k=12)=false:=decide_eq_false (by omega)
  with_reducible refine aD (fun hb=> ?_) (fun hb=> ?_)<;>have h:=hb<;>(try simp only[wf_preprocess] at h)<;>simp -implicitDefEqProofs (disch:=omega) only[go_sem,hb,n3,n4,n5,n6,n7,n8,n9,n10,n11,n12,ak,ah]<;>(repeat(with_reducible refine And.intro ?_ ?_;focus first|omega|rfl|assumption|exact⟨_,rfl,rfl⟩|(simp;omega)|(simp;done)))
  ·subst h;simp only[kG,reduceIte] at hq;refine bn rfl (dY hB c1 (1+l) j _ 2 (by rw[aG];exact g _) (by omega) (by omega)) ?_;simp -implicitDefEqProofs (disch:=omega) only[go_sem,n3,n4,n5,n6,n7,n8,n9,n10,n11,n12,ak,ah];rw[hq];refine⟨rfl,[_,_,_,_,_,_,_],_,_,rfl,rfl,.inr ⟨rfl,fun e he=>by cases he⟩,.inr ⟨rfl,fun e he=>by cases he⟩⟩
  have e1:=h
  with_reducible refine aD (fun hb=> ?_) (fun hb=> ?_)<;>have h:=hb<;>(try simp only[wf_preprocess] at h)<;>simp -implicitDefEqProofs (disch:=omega) only[go_sem,hb,n3,n4,n5,n6,n7,n8,n9,n10,n11,n12,ak,ah]<;>(repeat(with_reducible refine And.intro ?_ ?_;focus first|omega|rfl|assumption|exact⟨_,rfl,rfl⟩|(simp;omega)|(simp;done)))
  ·subst h
   with_reducible refine aD (fun hb=> ?_) (fun hb=> ?_)<;>have h:=hb<;>(try simp only[wf_preprocess] at h)<;>simp -implicitDefEqProofs (disch:=omega) only[go_sem,hb,ak,ah]<;>(repeat(with_reducible refine And.intro ?_ ?_;focus first|omega|rfl|assumption|exact⟨_,rfl,rfl⟩|(simp;omega)|(simp;done)))
   ·have hl:0<vars.length:=by omega
    simp only[kG,reduceIte,Int.reduceEq,false_or,or_false,or_self,false_and,true_and,if_pos hl] at hq;refine cu [true] rfl (dS hB c1 (1+l) j _ vars (by rw[aG];exact g _) (by omega) (by omega)) ?_;simp -implicitDefEqProofs (disch:=omega) only[go_sem,n3,n4,n5,n6,n7,n8,n9,n10,n11,n12,ak,ah];refine aB (tX (bP vars c1).1) ?_;simp -implicitDefEqProofs (disch:=omega) only[go_sem,n3,n4,n5,n6,n7,n8,n9,n10,n11,n12,ak,ah];rw[hq];refine⟨rfl,[_,_,_,_,_,_,_],_,_,rfl,rfl,.inr ⟨rfl,fun e he=>by cases he⟩,.inr ⟨rfl,fun e he=>by cases he⟩⟩
   ·have hl:¬0<vars.length:=by omega
    simp only[kG,reduceIte,Int.reduceEq,false_or,or_false,or_self,false_and,true_and,if_neg hl] at hq;have hx2:=iC (n:=20) c1 (by omega);refine bn rfl (dY hB c1 (1+l) j _ 20 (by rw[aG];exact g _) (by omega) (by omega)) ?_;simp -implicitDefEqProofs (disch:=omega) only[go_sem,n3,n4,n5,n6,n7,n8,n9,n10,n11,n12,ak,ah]
    (repeat(with_reducible refine And.intro ?_ ?_;focus first|omega|rfl|assumption|exact⟨_,rfl,rfl⟩|(simp;omega)|(simp;done)))
    refine aB (pK ((aT 20 c1).1-5)) ?_;simp -implicitDefEqProofs (disch:=omega) only[go_sem,n3,n4,n5,n6,n7,n8,n9,n10,n11,n12,ak,ah];rw[hq];refine⟨rfl,[_,_,_,_,_,_,_],_,_,rfl,rfl,.inr ⟨rfl,fun e he=>by cases he⟩,.inr ⟨rfl,fun e he=>by cases he⟩⟩
  have e2:=h
  have e3:¬k=3:=by omega
  have e4:¬k=4:=by omega
  have e5:¬k=5:=by omega
  have e6:¬k=6:=by omega
  have e7:¬k=7:=by omega
  have e8:¬k=8:=by omega
  have e9:¬k=9:=by omega
  have e10:¬k=10:=by omega
  have e11:¬k=11:=by omega
  have e12:¬k=12:=by omega
  simp only[kG,if_neg e1,e2,e3,false_or,or_self,false_and,reduceIte,if_neg e4,if_neg e5,if_neg e6,if_neg e7,if_neg e8,if_neg e9,if_neg e10,if_neg e11,if_neg e12] at hq;have hx2:=iC (n:=20) c1 (by omega);refine bn rfl (dY hB c1 (1+l) j _ 20 (by rw[aG];exact g _) (by omega) (by omega)) ?_;simp -implicitDefEqProofs (disch:=omega) only[go_sem,n3,n4,n5,n6,n7,n8,n9,n10,n11,n12,ak,ah]
  (repeat(with_reducible refine And.intro ?_ ?_;focus first|omega|rfl|assumption|exact⟨_,rfl,rfl⟩|(simp;omega)|(simp;done)))
  refine aB (pK ((aT 20 c1).1-5)) ?_;simp -implicitDefEqProofs (disch:=omega) only[go_sem,n3,n4,n5,n6,n7,n8,n9,n10,n11,n12,ak,ah];rw[hq];refine⟨rfl,[_,_,_,_,_,_,_],_,_,rfl,rfl,.inr ⟨rfl,fun e he=>by cases he⟩,.inr ⟨rfl,fun e he=>by cases he⟩⟩
 |succ n ih=>
  intro vars c l j S hv hk;have g:∀x:Ab.Obj,bg (aX S (l,j) x) (l,j)=some x:=fun x=>dn _ _ _ _ hk;have hx:=iC (n:=13) c (by omega);obtain⟨k,hkd⟩:∃k,k=(aT 13 c).1:=⟨_,rfl⟩;obtain⟨c1,hc1⟩:∃c1,c1=(aT 13 c).2:=⟨_,rfl⟩;have ih1:=fun vars c l j S hv hk=>jm (ih vars c l j S hv hk);rw[gT,<-hkd,<-hc1];obtain⟨q,hq⟩:∃q,q=kG k (gT n) vars c1:=⟨_,rfl⟩;rw[<-hq];refine Dg (rs:=[.cell 6 115]) zmx func145 ntmps145 rfl rfl rfl rfl rfl ?_;simp -implicitDefEqProofs (disch:=omega) only[go_sem];refine bn rfl (dY hB c (1+l) j _ 13 (by rw[aG];exact hk) (by omega) (by omega)) ?_;rw[<-hkd,<-hc1];have d0:decide (((n+1:Nat):Int)<=0)=false:=decide_eq_false (by omega)
  have d1:((n+1:Nat):Int)-1=(n:Int):=by omega
  simp -implicitDefEqProofs (disch:=omega) only[go_sem,d0,ak]
  have hm:∀y∈vars.map encS,y.length=1:=by
   intro y hy;obtain⟨z,_,rfl⟩:=List.mem_map.1 hy;rfl
  with_reducible refine aD (fun hb=> ?_) (fun hb=> ?_)<;>have h:=hb<;>(try simp only[wf_preprocess] at h)<;>simp -implicitDefEqProofs (disch:=omega) only[go_sem,hb,d1,ak,ah]<;>(repeat(with_reducible refine And.intro ?_ ?_;focus first|omega|rfl|assumption|exact⟨_,rfl,rfl⟩|(simp;omega)|(simp;done)))
  ·subst h;simp only[kG,reduceIte] at hq;refine bn rfl (dY hB c1 (1+l) j _ 2 (by rw[aG];exact g _) (by omega) (by omega)) ?_;simp -implicitDefEqProofs (disch:=omega) only[go_sem,d1,ak,ah];rw[hq];refine⟨rfl,[_,_,_,_,_,_,_],_,_,rfl,rfl,.inr ⟨rfl,fun e he=>by cases he⟩,.inr ⟨rfl,fun e he=>by cases he⟩⟩
  have e1:=h
  with_reducible refine aD (fun hb=> ?_) (fun hb=> ?_)<;>have h:=hb<;>(try simp only[wf_preprocess] at h)<;>simp -implicitDefEqProofs (disch:=omega) only[go_sem,hb,d1,ak,ah]<;>(repeat(with_reducible refine And.intro ?_ ?_;focus first|omega|rfl|assumption|exact⟨_,rfl,rfl⟩|(simp;omega)|(simp;done)))
  ·subst h
   with_reducible refine aD (fun hb=> ?_) (fun hb=> ?_)<;>have h:=hb<;>(try simp only[wf_preprocess] at h)<;>simp -implicitDefEqProofs (disch:=omega) only[go_sem,hb,d1,ak,ah]<;>(repeat(with_reducible refine And.intro ?_ ?_;focus first|omega|rfl|assumption|exact⟨_,rfl,rfl⟩|(simp;omega)|(simp;done)))
   ·have hl:0<vars.length:=by omega
    simp only[kG,reduceIte,Int.reduceEq,false_or,or_false,or_self,false_and,true_and,if_pos hl] at hq;refine cu [true] rfl (dS hB c1 (1+l) j _ vars (by rw[aG];exact g _) (by omega) (by omega)) ?_;simp -implicitDefEqProofs (disch:=omega) only[go_sem,d1,ak,ah];refine aB (tX (bP vars c1).1) ?_;simp -implicitDefEqProofs (disch:=omega) only[go_sem,d1,ak,ah];rw[hq];refine⟨rfl,[_,_,_,_,_,_,_],_,_,rfl,rfl,.inr ⟨rfl,fun e he=>by cases he⟩,.inr ⟨rfl,fun e he=>by cases he⟩⟩
   ·have hl:¬0<vars.length:=by omega
    simp only[kG,reduceIte,Int.reduceEq,false_or,or_false,or_self,false_and,true_and,if_neg hl] at hq;have hx2:=iC (n:=20) c1 (by omega);refine bn rfl (dY hB c1 (1+l) j _ 20 (by rw[aG];exact g _) (by omega) (by omega)) ?_;simp -implicitDefEqProofs (disch:=omega) only[go_sem,d1,ak,ah]
    (repeat(with_reducible refine And.intro ?_ ?_;focus first|omega|rfl|assumption|exact⟨_,rfl,rfl⟩|(simp;omega)|(simp;done)))
    refine aB (pK ((aT 20 c1).1-5)) ?_;simp -implicitDefEqProofs (disch:=omega) only[go_sem,d1,ak,ah];rw[hq];refine⟨rfl,[_,_,_,_,_,_,_],_,_,rfl,rfl,.inr ⟨rfl,fun e he=>by cases he⟩,.inr ⟨rfl,fun e he=>by cases he⟩⟩
  have e2:=h
  with_reducible refine aD (fun hb=> ?_) (fun hb=> ?_)<;>have h:=hb<;>(try simp only[wf_preprocess] at h)<;>simp -implicitDefEqProofs (disch:=omega) only[go_sem,hb,d1,ak,ah]<;>(repeat(with_reducible refine And.intro ?_ ?_;focus first|omega|rfl|assumption|exact⟨_,rfl,rfl⟩|(simp;omega)|(simp;done)))
  ·subst h
   with_reducible refine aD (fun hb=> ?_) (fun hb=> ?_)<;>have h:=hb<;>(try simp only[wf_preprocess] at h)<;>simp -implicitDefEqProofs (disch:=omega) only[go_sem,hb,d1,ak,ah]<;>(repeat(with_reducible refine And.intro ?_ ?_;focus first|omega|rfl|assumption|exact⟨_,rfl,rfl⟩|(simp;omega)|(simp;done)))
   ·have hl:0<vars.length:=by omega
    simp only[kG,reduceIte,Int.reduceEq,false_or,or_false,or_self,false_and,true_and,if_pos hl] at hq;refine cu [true] rfl (dS hB c1 (1+l) j _ vars (by rw[aG];exact g _) (by omega) (by omega)) ?_;simp -implicitDefEqProofs (disch:=omega) only[go_sem,d1,ak,ah];refine aB (tX (bP vars c1).1) ?_;simp -implicitDefEqProofs (disch:=omega) only[go_sem,d1,ak,ah];rw[hq];refine⟨rfl,[_,_,_,_,_,_,_],_,_,rfl,rfl,.inr ⟨rfl,fun e he=>by cases he⟩,.inr ⟨rfl,fun e he=>by cases he⟩⟩
   ·have hl:¬0<vars.length:=by omega
    simp only[kG,reduceIte,Int.reduceEq,false_or,or_false,or_self,false_and,true_and,if_neg hl] at hq;have hx2:=iC (n:=20) c1 (by omega);refine bn rfl (dY hB c1 (1+l) j _ 20 (by rw[aG];exact g _) (by omega) (by omega)) ?_;simp -implicitDefEqProofs (disch:=omega) only[go_sem,d1,ak,ah]
    (repeat(with_reducible refine And.intro ?_ ?_;focus first|omega|rfl|assumption|exact⟨_,rfl,rfl⟩|(simp;omega)|(simp;done)))
    refine aB (pK ((aT 20 c1).1-5)) ?_;simp -implicitDefEqProofs (disch:=omega) only[go_sem,d1,ak,ah];rw[hq];refine⟨rfl,[_,_,_,_,_,_,_],_,_,rfl,rfl,.inr ⟨rfl,fun e he=>by cases he⟩,.inr ⟨rfl,fun e he=>by cases he⟩⟩
  have e3:=h
  with_reducible refine aD (fun hb=> ?_) (fun hb=> ?_)<;>have h:=hb<;>(try simp only[wf_preprocess] at h)<;>simp -implicitDefEqProofs (disch:=omega) only[go_sem,hb,d1,ak,ah]<;>(repeat(with_reducible refine And.intro ?_ ?_;focus first|omega|rfl|assumption|exact⟨_,rfl,rfl⟩|(simp;omega)|(simp;done)))
  ·subst h;simp only[kG,reduceIte,Int.reduceEq,false_or,or_false,or_self,false_and] at hq;refine cu [true] rfl (dS hB c1 (1+l) j _ vL (by rw[aG];exact g _) (by decide) (by decide)) ?_;simp -implicitDefEqProofs (disch:=omega) only[go_sem,d1,ak,ah];refine cu [true] rfl (ih1 vars (bP vL c1).2 (1+l) j _ (by first|omega|(simp only[List.length_append,List.length_cons,List.length_nil];omega)) (by rw[aG];exact g _)) ?_;simp -implicitDefEqProofs (disch:=omega) only[go_sem,d1,ak,ah]
   (repeat(with_reducible refine And.intro ?_ ?_;focus first|omega|rfl|assumption|exact⟨_,rfl,rfl⟩|(simp;omega)|(simp;done)))
   refine bn rfl (wN 4 (bP vL c1).1 [(gT n vars (bP vL c1).2).1] (by simp only[List.map_cons,List.map_nil,aC.aj,ay.aj,List.cons_append,List.nil_append]) (by simp) (.inr rfl)) ?_;simp -implicitDefEqProofs (disch:=omega) only[go_sem,d1,ak,ah];rw[hq];refine⟨rfl,[_,_,_,_,_,_,_],_,_,rfl,rfl,.inl ⟨1,?_,?_⟩,.inl ⟨2,?_,?_⟩⟩<;>simp only[nR,rF,rG,List.map_cons,List.map_nil,aC.aj,uo,ay.aj,encS,List.cons_append,List.nil_append]<;>rfl
  have e4:=h
  with_reducible refine aD (fun hb=> ?_) (fun hb=> ?_)<;>have h:=hb<;>(try simp only[wf_preprocess] at h)<;>simp -implicitDefEqProofs (disch:=omega) only[go_sem,hb,d1,ak,ah]<;>(repeat(with_reducible refine And.intro ?_ ?_;focus first|omega|rfl|assumption|exact⟨_,rfl,rfl⟩|(simp;omega)|(simp;done)))
  ·subst h;simp only[kG,reduceIte,Int.reduceEq,false_or,or_false,or_self,false_and] at hq;refine cu [true] rfl (dS hB c1 (1+l) j _ yh (by rw[aG];exact g _) (by decide) (by decide)) ?_;simp -implicitDefEqProofs (disch:=omega) only[go_sem,d1,ak,ah];refine cu [true] rfl (ih1 vars (bP yh c1).2 (1+l) j _ (by first|omega|(simp only[List.length_append,List.length_cons,List.length_nil];omega)) (by rw[aG];exact g _)) ?_;simp -implicitDefEqProofs (disch:=omega) only[go_sem,d1,ak,ah];refine cu [true] rfl (ih1 vars (gT n vars (bP yh c1).2).2 (1+l) j _ (by first|omega|(simp only[List.length_append,List.length_cons,List.length_nil];omega)) (by rw[aG];exact g _)) ?_;simp -implicitDefEqProofs (disch:=omega) only[go_sem,d1,ak,ah]
   (repeat(with_reducible refine And.intro ?_ ?_;focus first|omega|rfl|assumption|exact⟨_,rfl,rfl⟩|(simp;omega)|(simp;done)))
   rw[hq];refine⟨rfl,[_,_,_,_,_,_,_],_,_,rfl,rfl,.inr ⟨?_,AV _⟩,.inr ⟨rfl,fun e he=>by cases he⟩⟩<;>simp only[nR,rF,rG,List.map_cons,List.map_nil,aC.aj,uo,ay.aj,encS,List.cons_append,List.nil_append]<;>rfl
  have e5:=h
  with_reducible refine aD (fun hb=> ?_) (fun hb=> ?_)<;>have h:=hb<;>(try simp only[wf_preprocess] at h)<;>simp -implicitDefEqProofs (disch:=omega) only[go_sem,hb,d1,ak,ah]<;>(repeat(with_reducible refine And.intro ?_ ?_;focus first|omega|rfl|assumption|exact⟨_,rfl,rfl⟩|(simp;omega)|(simp;done)))
  ·subst h;simp only[kG,reduceIte,Int.reduceEq,false_or,or_false,or_self,false_and] at hq;refine cu [true] rfl (ih1 vars c1 (1+l) j _ (by first|omega|(simp only[List.length_append,List.length_cons,List.length_nil];omega)) (by rw[aG];exact g _)) ?_;simp -implicitDefEqProofs (disch:=omega) only[go_sem,d1,ak,ah];refine cu [true] rfl (ih1 vars (gT n vars c1).2 (1+l) j _ (by first|omega|(simp only[List.length_append,List.length_cons,List.length_nil];omega)) (by rw[aG];exact g _)) ?_;simp -implicitDefEqProofs (disch:=omega) only[go_sem,d1,ak,ah]
   (repeat(with_reducible refine And.intro ?_ ?_;focus first|omega|rfl|assumption|exact⟨_,rfl,rfl⟩|(simp;omega)|(simp;done)))
   refine bn rfl (wN 6 [99,111,110,115] [(gT n vars c1).1,(gT n vars (gT n vars c1).2).1] (by simp only[List.map_cons,List.map_nil,aC.aj,ay.aj,List.cons_append,List.nil_append]) (by simp) (.inr rfl)) ?_;simp -implicitDefEqProofs (disch:=omega) only[go_sem,d1,ak,ah];rw[hq];refine⟨rfl,[_,_,_,_,_,_,_],_,_,rfl,rfl,.inl ⟨1,?_,?_⟩,.inl ⟨2,?_,?_⟩⟩<;>simp only[nR,rF,rG,List.map_cons,List.map_nil,aC.aj,uo,ay.aj,encS,List.cons_append,List.nil_append]<;>rfl
  have e6:=h
  with_reducible refine aD (fun hb=> ?_) (fun hb=> ?_)<;>have h:=hb<;>(try simp only[wf_preprocess] at h)<;>simp -implicitDefEqProofs (disch:=omega) only[go_sem,hb,d1,ak,ah]<;>(repeat(with_reducible refine And.intro ?_ ?_;focus first|omega|rfl|assumption|exact⟨_,rfl,rfl⟩|(simp;omega)|(simp;done)))
  ·subst h;simp only[kG,reduceIte,Int.reduceEq,false_or,or_false,or_self,false_and] at hq;refine cu [true] rfl (ih1 vars c1 (1+l) j _ (by first|omega|(simp only[List.length_append,List.length_cons,List.length_nil];omega)) (by rw[aG];exact g _)) ?_;simp -implicitDefEqProofs (disch:=omega) only[go_sem,d1,ak,ah];refine cu [true] rfl (ih1 vars (gT n vars c1).2 (1+l) j _ (by first|omega|(simp only[List.length_append,List.length_cons,List.length_nil];omega)) (by rw[aG];exact g _)) ?_;simp -implicitDefEqProofs (disch:=omega) only[go_sem,d1,ak,ah];have ih2:=fun c l j S hk=>ih1 (vars++[[104],[116]]) c l j S (by simp only[List.length_append,List.length_cons,List.length_nil];omega) hk;simp only[List.map_append,List.map_cons,List.map_nil,encS] at ih2;refine cu [true] rfl (ih2 (gT n vars (gT n vars c1).2).2 (1+l) j _ (by rw[aG];exact g _)) ?_;simp -implicitDefEqProofs (disch:=omega) only[go_sem,d1,ak,ah]
   (repeat(with_reducible refine And.intro ?_ ?_;focus first|omega|rfl|assumption|exact⟨_,rfl,rfl⟩|(simp;omega)|(simp;done)))
   rw[hq];refine⟨rfl,[_,_,_,_,_,_,_],_,_,rfl,rfl,.inr ⟨?_,AV _⟩,.inr ⟨?_,adv _⟩⟩<;>simp only[nR,rF,rG,List.map_cons,List.map_nil,aC.aj,uo,ay.aj,encS,List.cons_append,List.nil_append]<;>rfl
  have e7:=h
  with_reducible refine aD (fun hb=> ?_) (fun hb=> ?_)<;>have h:=hb<;>(try simp only[wf_preprocess] at h)<;>simp -implicitDefEqProofs (disch:=omega) only[go_sem,hb,d1,ak,ah]<;>(repeat(with_reducible refine And.intro ?_ ?_;focus first|omega|rfl|assumption|exact⟨_,rfl,rfl⟩|(simp;omega)|(simp;done)))
  ·subst h;simp only[kG,reduceIte,Int.reduceEq,false_or,or_false,or_self,false_and] at hq;refine cu [true] rfl (ih1 vars c1 (1+l) j _ (by first|omega|(simp only[List.length_append,List.length_cons,List.length_nil];omega)) (by rw[aG];exact g _)) ?_;simp -implicitDefEqProofs (disch:=omega) only[go_sem,d1,ak,ah];refine⟨hm,⟨_,rfl,rfl⟩,fun y hy=>absurd hy List.not_mem_nil,by omega,by simp,⟨_,rfl,rfl⟩,by omega,?_⟩;have ih2:=fun c l j S hk=>ih1 (vars++[[121]]) c l j S (by simp only[List.length_append,List.length_cons,List.length_nil];omega) hk;simp only[List.map_append,List.map_cons,List.map_nil,encS] at ih2;refine cu [true] rfl (ih2 (gT n vars c1).2 (1+l) j _ (by rw[aG];exact g _)) ?_;simp -implicitDefEqProofs (disch:=omega) only[go_sem,d1,ak,ah]
   (repeat(with_reducible refine And.intro ?_ ?_;focus first|omega|rfl|assumption|exact⟨_,rfl,rfl⟩|(simp;omega)|(simp;done)))
   refine bn rfl (wN 8 [121] [(gT n vars c1).1,(gT n (vars++[[121]]) (gT n vars c1).2).1] (by simp only[List.map_cons,List.map_nil,aC.aj,ay.aj,List.cons_append,List.nil_append]) (by simp) (.inr rfl)) ?_;simp -implicitDefEqProofs (disch:=omega) only[go_sem,d1,ak,ah];rw[hq];refine⟨rfl,[_,_,_,_,_,_,_],_,_,rfl,rfl,.inl ⟨2,?_,?_⟩,.inl ⟨3,?_,?_⟩⟩<;>simp only[nR,rF,rG,List.map_cons,List.map_nil,aC.aj,uo,ay.aj,encS,List.cons_append,List.nil_append]<;>rfl
  have e8:=h
  with_reducible refine aD (fun hb=> ?_) (fun hb=> ?_)<;>have h:=hb<;>(try simp only[wf_preprocess] at h)<;>simp -implicitDefEqProofs (disch:=omega) only[go_sem,hb,d1,ak,ah]<;>(repeat(with_reducible refine And.intro ?_ ?_;focus first|omega|rfl|assumption|exact⟨_,rfl,rfl⟩|(simp;omega)|(simp;done)))
  ·subst h;simp only[kG,reduceIte,Int.reduceEq,false_or,or_false,or_self,false_and] at hq;refine cu [true] rfl (ih1 vars c1 (1+l) j _ (by first|omega|(simp only[List.length_append,List.length_cons,List.length_nil];omega)) (by rw[aG];exact g _)) ?_;simp -implicitDefEqProofs (disch:=omega) only[go_sem,d1,ak,ah];refine cu [true] rfl (ih1 vars (gT n vars c1).2 (1+l) j _ (by first|omega|(simp only[List.length_append,List.length_cons,List.length_nil];omega)) (by rw[aG];exact g _)) ?_;simp -implicitDefEqProofs (disch:=omega) only[go_sem,d1,ak,ah];refine cu [true] rfl (ih1 vars (gT n vars (gT n vars c1).2).2 (1+l) j _ (by first|omega|(simp only[List.length_append,List.length_cons,List.length_nil];omega)) (by rw[aG];exact g _)) ?_;simp -implicitDefEqProofs (disch:=omega) only[go_sem,d1,ak,ah]
   (repeat(with_reducible refine And.intro ?_ ?_;focus first|omega|rfl|assumption|exact⟨_,rfl,rfl⟩|(simp;omega)|(simp;done)))
   refine bn rfl (wN 9 [] [(gT n vars c1).1,(gT n vars (gT n vars c1).2).1,(gT n vars (gT n vars (gT n vars c1).2).2).1] (by simp only[List.map_cons,List.map_nil,aC.aj,ay.aj,List.cons_append,List.nil_append]) (by simp) (.inr rfl)) ?_;simp -implicitDefEqProofs (disch:=omega) only[go_sem,d1,ak,ah];rw[hq];refine⟨rfl,[_,_,_,_,_,_,_],_,_,rfl,rfl,.inl ⟨1,?_,?_⟩,.inl ⟨2,?_,?_⟩⟩<;>simp only[nR,rF,rG,List.map_cons,List.map_nil,aC.aj,uo,ay.aj,encS,List.cons_append,List.nil_append]<;>rfl
  have e9:=h
  with_reducible refine aD (fun hb=> ?_) (fun hb=> ?_)<;>have h:=hb<;>(try simp only[wf_preprocess] at h)<;>simp -implicitDefEqProofs (disch:=omega) only[go_sem,hb,d1,ak,ah]<;>(repeat(with_reducible refine And.intro ?_ ?_;focus first|omega|rfl|assumption|exact⟨_,rfl,rfl⟩|(simp;omega)|(simp;done)))
  ·subst h;simp only[kG,reduceIte,Int.reduceEq,false_or,or_false,or_self,false_and] at hq;refine cu [true] rfl (dS hB c1 (1+l) j _ um (by rw[aG];exact g _) (by decide) (by decide)) ?_;simp -implicitDefEqProofs (disch:=omega) only[go_sem,d1,ak,ah];refine cu [true] rfl (ih1 vars (bP um c1).2 (1+l) j _ (by first|omega|(simp only[List.length_append,List.length_cons,List.length_nil];omega)) (by rw[aG];exact g _)) ?_;simp -implicitDefEqProofs (disch:=omega) only[go_sem,d1,ak,ah];refine cu [true] rfl (ih1 vars (gT n vars (bP um c1).2).2 (1+l) j _ (by first|omega|(simp only[List.length_append,List.length_cons,List.length_nil];omega)) (by rw[aG];exact g _)) ?_;simp -implicitDefEqProofs (disch:=omega) only[go_sem,d1,ak,ah]
   (repeat(with_reducible refine And.intro ?_ ?_;focus first|omega|rfl|assumption|exact⟨_,rfl,rfl⟩|(simp;omega)|(simp;done)))
   refine bn rfl (wN 10 (bP um c1).1 [(gT n vars (bP um c1).2).1,(gT n vars (gT n vars (bP um c1).2).2).1] (by simp only[List.map_cons,List.map_nil,aC.aj,ay.aj,List.cons_append,List.nil_append]) (by simp) (.inr rfl)) ?_;simp -implicitDefEqProofs (disch:=omega) only[go_sem,d1,ak,ah];rw[hq];refine⟨rfl,[_,_,_,_,_,_,_],_,_,rfl,rfl,.inl ⟨1,?_,?_⟩,.inl ⟨2,?_,?_⟩⟩<;>simp only[nR,rF,rG,List.map_cons,List.map_nil,aC.aj,uo,ay.aj,encS,List.cons_append,List.nil_append]<;>rfl
  have e10:=h
  with_reducible refine aD (fun hb=> ?_) (fun hb=> ?_)<;>have h:=hb<;>(try simp only[wf_preprocess] at h)<;>simp -implicitDefEqProofs (disch:=omega) only[go_sem,hb,d1,ak,ah]<;>(repeat(with_reducible refine And.intro ?_ ?_;focus first|omega|rfl|assumption|exact⟨_,rfl,rfl⟩|(simp;omega)|(simp;done)))
  ·subst h;simp only[kG,reduceIte,Int.reduceEq,false_or,or_false,or_self,false_and] at hq;refine cu [true] rfl (ih1 vars c1 (1+l) j _ (by first|omega|(simp only[List.length_append,List.length_cons,List.length_nil];omega)) (by rw[aG];exact g _)) ?_;simp -implicitDefEqProofs (disch:=omega) only[go_sem,d1,ak,ah]
   (repeat(with_reducible refine And.intro ?_ ?_;focus first|omega|rfl|assumption|exact⟨_,rfl,rfl⟩|(simp;omega)|(simp;done)))
   rw[hq];refine⟨rfl,[_,_,_,_,_,_,_],_,_,rfl,rfl,.inr ⟨?_,AV _⟩,.inr ⟨rfl,fun e he=>by cases he⟩⟩<;>simp only[nR,rF,rG,List.map_cons,List.map_nil,aC.aj,uo,ay.aj,encS,List.cons_append,List.nil_append]<;>rfl
  have e11:=h
  with_reducible refine aD (fun hb=> ?_) (fun hb=> ?_)<;>have h:=hb<;>(try simp only[wf_preprocess] at h)<;>simp -implicitDefEqProofs (disch:=omega) only[go_sem,hb,d1,ak,ah]<;>(repeat(with_reducible refine And.intro ?_ ?_;focus first|omega|rfl|assumption|exact⟨_,rfl,rfl⟩|(simp;omega)|(simp;done)))
  ·subst h;simp only[kG,reduceIte,Int.reduceEq,false_or,or_false,or_self,false_and] at hq;refine cu [true] rfl (sw (Ej hB (vars:=aL) (by decide) 1 c1 (1+l) j _ (by rw[aG];exact g _) (by omega))) ?_;simp -implicitDefEqProofs (disch:=omega) only[go_sem,d1,ak,ah];refine cu [true] rfl (ih1 vars (kH aL 1 c1).2 (1+l) j _ (by first|omega|(simp only[List.length_append,List.length_cons,List.length_nil];omega)) (by rw[aG];exact g _)) ?_;simp -implicitDefEqProofs (disch:=omega) only[go_sem,d1,ak,ah]
   (repeat(with_reducible refine And.intro ?_ ?_;focus first|omega|rfl|assumption|exact⟨_,rfl,rfl⟩|(simp;omega)|(simp;done)))
   rw[hq];refine⟨rfl,[_,_,_,_,_,_,_],_,_,rfl,rfl,.inr ⟨?_,AV _⟩,.inr ⟨rfl,fun e he=>by cases he⟩⟩<;>simp only[nR,rF,rG,List.map_cons,List.map_nil,aC.aj,uo,ay.aj,encS,List.cons_append,List.nil_append]<;>rfl
  have e12:=h;simp only[kG,if_neg e1,e2,e3,false_or,or_self,false_and,reduceIte,if_neg e4,if_neg e5,if_neg e6,if_neg e7,if_neg e8,if_neg e9,if_neg e10,if_neg e11,if_neg e12] at hq;have hx2:=iC (n:=20) c1 (by omega);refine bn rfl (dY hB c1 (1+l) j _ 20 (by rw[aG];exact g _) (by omega) (by omega)) ?_;simp -implicitDefEqProofs (disch:=omega) only[go_sem,d1,ak,ah]
  (repeat(with_reducible refine And.intro ?_ ?_;focus first|omega|rfl|assumption|exact⟨_,rfl,rfl⟩|(simp;omega)|(simp;done)))
  refine aB (pK ((aT 20 c1).1-5)) ?_;simp -implicitDefEqProofs (disch:=omega) only[go_sem,d1,ak,ah];rw[hq];refine⟨rfl,[_,_,_,_,_,_,_],_,_,rfl,rfl,.inr ⟨rfl,fun e he=>by cases he⟩,.inr ⟨rfl,fun e he=>by cases he⟩⟩
end Go.Ab