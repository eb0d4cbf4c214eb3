/-
  SEVERAL TEXTS IN ONE (merged by program): contracts and models, each with its own heading.
-/
import Derived.Test.YtnmjbebcebbmfaaGreatDoorPartDnbG
import Derived.Test.YtnmjbebcebbmfaaGreatDoorPartDnbI
open Go.Proofs Go.Proofs.Tryz
set_option linter.unusedSimpArgs false
set_option linter.unusedVariables false
set_option maxRecDepth 4000
namespace Go.Ab
def Ry(S:Store)(os:List Obj):Store:=match S with
 |fr::Ω=>(fr++os)::Ω
 |[]=>[]
def Ew(S:Store):Nat:=match S with
 |fr::_=>fr.length
 |[]=>0
def Gy(S:Store):Bool:=match S with
 |_::_=>true
 |[]=>false
theorem KD{fr:List Obj}{Ω:Store}{os:List Obj}:Ry (fr::Ω) os=(fr++os)::Ω:=rfl
theorem wu{fr:List Obj}{Ω:Store}:Ew (fr::Ω)=fr.length:=rfl
theorem abA{fr:List Obj}{Ω:Store}:Gy (fr::Ω)=true:=rfl
theorem aeZ{k:Key}{x:Obj}:∀{S:Store},Gy (bA S k x)=Gy S
 |[]=>rfl
 |fr::S=>by
  obtain⟨l,j⟩:=k;cases l<;>rfl
theorem aly{k:Key}{x:Obj}:∀{S:Store},Ew (bA S k x)=Ew S
 |[]=>rfl
 |fr::S=>by
  obtain⟨l,j⟩:=k;cases l
  ·show(fr.set j x).length=fr.length
   simp
  ·rfl
def uK(P:Program)(f:FuncId)(args:List V)(S:Store)(raw:V->List Obj->Store->Prop):Prop:=
 Known P f/\∀w σ β vs,fC w σ S β->pO w σ S β args vs->
  Calls P f vs.toArray w fun e w'=>∃v r own S1 bo β1 σ',e=.returned v/\fC w' σ' (own::S1) (bo::β1)/\Keep S β S1 β1/\Step S β σ w (own::S1) (bo::β1) σ' w'/\dR w' σ' (own::S1) (bo::β1) r v/\raw r own S1
def Y1(P:Program)(rs:List ResultVar)(raw:V->List Obj->Store->Prop)(e:Exit)(s:St):Prop:=
 match e with
 | .normal| .ret=>(sj P rs s).1/\match s.st with
   |own::S1=>raw (sj P rs s).2 own S1
   |[]=>False
 |_=>False
section
variable {P:Program} {N:Nat} {s:St} {S:Store}
theorem Vp{f:FuncId}{fn:Func}{c:Code}{args:List V}{raw:V->List Obj->Store->Prop}(hf:P.funcs[f]? =some fn)(hb:fn.body=some c)(hn:(fn.name== "runtime.NumGoroutine")=false)
 (hl:args.length<=fn.ntmps)(h:AW P fn.ntmps c (Y1 P fn.results.toList raw) ⟨mV (args.map (V.up 1)) 0,[]::S⟩):uK P f args S raw:=by
 refine⟨⟨fn,hf,hn,by simp[hb]⟩,fun w σ β vs hS hargs=> ?_⟩;refine calls_of_wp hf hb ?_;have hlen:vs.length=args.length:=hargs.1.symm
 have Yk:lU fn.ntmps ⟨mV (args.map (V.up 1)) 0,[]::S⟩ {tmps:=vs.toArray++Array.replicate (fn.ntmps-vs.toArray.size) undef,defers:=[]} w σ ([]::β):=by
  refine⟨gR,rfl,hS.up1,fun t=> ?_⟩;show dR w σ ([]::S) ([]::β) (look (mV (args.map (V.up 1)) 0) t) _;rw[Fj,if_pos (an _),Nat.sub_zero,bE]
  cases ha:args[t]? with
  |none=>exact trivial
  |some x=>
   obtain⟨v,hv,hr⟩:=hargs.2 t x ha;have ht:=(ap.1 hv).1
   have:(vs.toArray++Array.replicate (fn.ntmps-vs.toArray.size) undef).getD t undef=v:=by
    rw[eh,cU (by simpa using ht)];simp[hv]
   rw[this];exact NY (S:=[]::S) (β:=[]::β) 1 hr
 refine wp_mono (h _ w σ ([]::β) Yk) ?_;rintro e a' w' ⟨s',σ',β',hR,hst,hkp,hq⟩
 have main:((sj P fn.results.toList s').1/\match s'.st with
  |own::S1=>raw (sj P fn.results.toList s').2 own S1
  |[]=>False)->
   a'.defers=[]/\∃v,(results fn a'.tmps).run P w'=.ok v w'/\∃v1 r own S1 bo β1 σ',Ending.returned v=Ending.returned v1/\fC w' σ' (own::S1) (bo::β1)/\Keep S β S1 β1/\Step S β σ w (own::S1) (bo::β1) σ' w'/\dR w' σ' (own::S1) (bo::β1) r v1/\raw r own S1:=by
  rintro⟨q1,q2⟩;obtain⟨v,hv,hrep⟩:=L8 (fn:=fn) hR q1;obtain⟨tm,st⟩:=s';simp only at q2;split at q2
  ·rename_i own S1;obtain⟨bo,β1,rfl,hlo⟩:=frames hR;have hst':Step ([]::S) ([]::β) σ w (own::S1) (bo::β1) σ' w':=hst;exact⟨hR.defers,v,hv,v,_,own,S1,bo,β1,σ',rfl,hR.S,hkp,⟨hst'.size,hst'.os,hst'.output,fun b hb ho=>hst'.far b hb (fun x=>ho (FT x)),hst'.near,fun b hb=>(hst'.own b hb).imp FT id⟩,hrep,q2⟩
  ·exact q2.elim
 cases e with
 |normal=>exact main hq
 |ret=>exact main hq
 |_=>exact hq.elim
def Y2(P:Program)(rs:List ResultVar)(raw:V->List Obj->Store->Prop)(s:St)(r:R):Prop:=r.1/\match s.st with
 |own::S1=>raw r.2 own S1
 |[]=>False
@[congr] theorem atr {rs:List ResultVar} {raw:V->List Obj->Store->Prop} {s s':St} {r r':R} (h1:s=s') (h2:r=r'):Y2 P rs raw s r=Y2 P rs raw s' r':=by rw[h1,h2]
theorem alz{rs:List ResultVar}{raw:V->List Obj->Store->Prop}{tm:List (Nat×V)}{S:Store}:Y1 P rs raw .ret ⟨tm,S⟩=Y2 P rs raw ⟨tm,S⟩ (sj P rs ⟨tm,S⟩):=rfl
theorem abB{rs:List ResultVar}{raw:V->List Obj->Store->Prop}{tm:List (Nat×V)}{S:Store}:Y1 P rs raw .normal ⟨tm,S⟩=Y2 P rs raw ⟨tm,S⟩ (sj P rs ⟨tm,S⟩):=rfl
theorem aoU{rs:List ResultVar}{raw:V->List Obj->Store->Prop}{tm:List (Nat×V)}{own:List Obj}{S1:Store}{p:Prop}{v:V}:Y2 P rs raw ⟨tm,own::S1⟩ (p,v)=(p/\raw v own S1):=rfl
theorem Gz{f:FuncId}{fn:Func}{c:Code}{args:List V}{raw:V->List Obj->Store->Prop}{rs:List ResultVar}(gP:P.follows .mixedOrders=true)(hf:P.funcs[f]? =some fn)(hN:fn.ntmps=N)
 (hb:fn.body=some c) (hn:(fn.name== "runtime.NumGoroutine")=false) (hr:fn.results.toList=rs) (hl:Nat.ble args.length N=true) (hok:codeOk N c=true)
 (h:CW P N c (Y1 P rs raw) ⟨mV (args.map (V.up 1)) 0,[]::S⟩):uK P f args S raw:=by
 subst hN;subst hr;exact Vp hf hb hn (dd hl) (lG gP c _ _ hok h)
theorem aoV(T:List TypeId){f:FuncId}{fn:Func}{c:Code}{args:List V}{raw:V->List Obj->Store->Prop}{rs:List ResultVar}(gP:P.follows .mixedOrders=true)(hf:P.funcs[f]? =some fn)(hN:fn.ntmps=N)
 (hb:fn.body=some c) (hn:(fn.name== "runtime.NumGoroutine")=false) (hr:fn.results.toList=rs) (hl:Nat.ble args.length N=true) (hok:qd T N c=true)
 (h:oZ P N T c (Y1 P rs raw) ⟨mV (args.map (V.up 1)) 0,[]::S⟩):uK P f args S raw:=by
 subst hN;subst hr;exact Vp hf hb hn (dd hl) (o9 gP c _ _ hok h)
theorem uK.mono{f:FuncId}{args:List V}{raw raw':V->List Obj->Store->Prop}(h:uK P f args S raw)(hi:∀r own S1,raw r own S1->raw' r own S1):uK P f args S raw':=
 ⟨h.1,fun w σ β vs hS hv=>(h.2 w σ β vs hS hv).mono fun e w' ⟨v,r,own,S1,bo,β1,σ',q1,q2,q3,q4,q5,q6⟩=>⟨v,r,own,S1,bo,β1,σ',q1,q2,q3,q4,q5,hi _ _ _ q6⟩⟩
end
def Mt(own:List Obj)(x:C)(z:Nat)(es:List (List D)):Prop:=(∃m,own[m]? =some (.tok z es)/\x=.bJ (0,m) es)\/(x=.bH es/\∀e∈es,e.length=z)
section
variable {w:World} {σ:Nat->Nat} {own fr:List Obj} {Ω:Store} {bo bf:List Value} {bΩ:Hs}
theorem Aw{S1:Store}{β1:Hs}{x:C}{z:Nat}{es:List (List D)}{v:Value}(h:Mt own x z es)(hr:jc w σ (own::S1) (bo::β1) x v):dO w σ (.sl es) v:=by
 rcases h with⟨m,h1,rfl⟩|⟨rfl,_⟩
 ·exact hr.1
 ·exact hr.1
theorem PY{S1:Store}{β1:Hs}{x:C}{z:Nat}{es:List (List D)}{v:Value}(hS:fC w σ (own::S1) (bo::β1))(h:Mt own x z es)(hr:jc w σ (own::S1) (bo::β1) x v):
 (∀S' β',iI w σ S' β' (.tok z es) v)/\∀b,owns (.tok z es) v b->∃m,own[m]? =some (.tok z es)/\x=.bJ (0,m) es/\bo[m]? =some v:=by
 rcases h with⟨m,h1,rfl⟩|⟨rfl,h2⟩
 ·obtain⟨hd,o,ho,hl⟩:=hr;rw[bM,h1] at ho;cases ho;have hb:=(hl _ _ (.inl rfl)).2 rfl;obtain⟨hv,e1,e2⟩:=hS.obj (0,m) _ (by rw[bM];exact h1);rw[hb] at e1;cases e1;rw[bM] at hb;exact⟨fun _ _=>e2,fun b _=>⟨m,h1,rfl,hb⟩⟩
 ·obtain⟨hd,a,n,rfl⟩:=hr
  have hn:n=es.length:=by cases hd<;>rfl
  subst hn;refine⟨fun _ _=>⟨hd,h2,a,es.length,rfl,ax _,.inl rfl⟩,fun b hb=> ?_⟩
  cases a with
  |none=>cases hb
  |some a=>simp[owns,blk] at hb
end
def GA(cs:List C):Bool:=cs.all fun c=>match c with
 | .d _=>true
 |_=>false
theorem Rz{w:World}{σ:Nat->Nat}{S S':Store}{β β':Hs}{c:C}{v:Value}(h:(match c with
 | .d _=>true
 |_=>false)=true) (hr:jc w σ S β c v):jc w σ S' β' c v:=by
 cases c<;>first|exact hr|(cases h;done)
theorem OZ{w:World}{σ:Nat->Nat}{S S':Store}{β β':Hs}{pre post:List C}{x x':C}{a:List Value}(h1:GA pre=true)(h2:GA post=true)(hr:gN w σ S β (pre++x::post) a)
 (hx:∀v,a[pre.length]? =some v->jc w σ S β x v->jc w σ S' β' x' v):gN w σ S' β' (pre++x'::post) a:=by
 refine⟨by simpa using hr.1,fun j y hy=> ?_⟩;rcases eW j pre.length with hj|hj|hj
 ·rw[aq hj] at hy;obtain⟨v,e1,e2,e3⟩:=hr.2 j y (by rw[aq hj];exact hy);exact⟨v,e1,Rz (az.1 h1 y (de hy)) e2,e3⟩
 ·subst hj;rw[ag (ax _),cM,fo] at hy;cases hy;obtain⟨v,e1,e2,e3⟩:=hr.2 pre.length x (by rw[ag (ax _),cM];rfl);exact⟨v,e1,hx v e1 e2,e3⟩
 ·rw[ag gA,show j-pre.length=(j-pre.length-1)+1 by omega,fa] at hy;obtain⟨v,e1,e2,e3⟩:=hr.2 j y (by rw[ag gA,show j-pre.length=(j-pre.length-1)+1 by omega,fa];exact hy);exact⟨v,e1,Rz (az.1 h2 y (de hy)) e2,e3⟩
section
variable {P:Program} {S S':Store} {f:FuncId} {args:List V}
theorem uK.plain{pre post:List C}{z:Nat}{es:List (List D)}(h1:GA pre=true)(h2:GA post=true)(h:uK P f args S fun r own S1=>S1=S'/\∃x,r=.agg (pre++x::post)/\Mt own x z es):
 bS P f args S fun r S1=>r=.agg (pre++ .d (.sl es)::post)/\S1=S':=by
 refine⟨h.1,fun w σ β vs hS hv=>(h.2 w σ β vs hS hv).mono fun e w' ⟨v,r,own,S1,bo,β1,σ',q1,q2,q3,q4,q5,q6,x,q7,q8⟩=> ?_⟩;subst q6 q7;obtain⟨a,rfl,hc⟩:=q5;exact⟨_,.agg (pre++ .d (.sl es)::post),S1,σ',β1,q1,q2.NZ,q3,⟨q4.size,q4.os,q4.output,q4.far,q4.near,fun b hb=>q4.own b (Aq hb)⟩,⟨a,rfl,OZ h1 h2 hc fun v e1 e2=>Aw q8 e2⟩,rfl,rfl⟩
theorem uK.push{pre post:List C}{z:Nat}{es:List (List D)}(h1:GA pre=true)(h2:GA post=true)(ht:Gy S'=true)(h:uK P f args S fun r own S1=>S1=S'/\∃x,r=.agg (pre++x::post)/\Mt own x z es):
 bS P f args S fun r S1=>r=.agg (pre++ .bJ (0,Ew S') es::post)/\S1=Ry S' [.tok z es]:=by
 refine⟨h.1,fun w σ β vs hS hv=>(h.2 w σ β vs hS hv).mono fun e w' ⟨v,r,own,S1,bo,β1,σ',q1,q2,q3,q4,q5,q6,x,q7,q8⟩=> ?_⟩;subst q6 q7;obtain⟨a,rfl,hc⟩:=q5;obtain⟨u,e1,e2,e3⟩:=hc.2 pre.length x (by rw[ag (ax _),cM];rfl);obtain⟨k1,k2⟩:=PY q2 q8 e2
 cases S1 with
 |nil=>cases ht
 |cons fr Ω=>
 have hd:=q2.NZ
 obtain⟨bf,bΩ,rfl,hlen⟩:∃bf bΩ,β1=bf::bΩ/\bf.length=fr.length:=by
  cases β1 with
  |nil=>have:=hd.shape.1;simp at this
  |cons bf bΩ=>
   refine⟨bf,bΩ,rfl,?_⟩;obtain⟨gr,q1,q2⟩:=hd.shape.2 0 fr rfl;simp at q1;rw[q1];exact q2
 obtain⟨l1,l2,l3⟩:=hd.lay (o:=.tok z es) (h:=u) hlen (k1 _ _) fun b hb ⟨k,o,hh,f1,f2,f3⟩=>by
  obtain⟨m,g1,g2,g3⟩:=k2 b hb;have:=q2.apart (0,m) (k.1+1,k.2) _ o u hh b (by rw[bM];exact g1) (by rw[bM];exact g3) hb (by rw[dG];exact f1) (by rw[dG];exact f2) f3;cases this
 refine⟨_,.agg (pre++ .bJ (0,Ew (fr::Ω)) es::post),_,σ',_,q1,l1,q3.trans l2,⟨q4.size,q4.os,q4.output,q4.far,q4.near,fun b hb=> ?_⟩,⟨a,rfl,OZ h1 h2 hc fun v f1 f2=> ?_⟩,rfl,rfl⟩
 ·rcases l3 b hb with q|q
  ·exact q4.own b (Aq q)
  ·obtain⟨m,g1,g2,g3⟩:=k2 b q;exact q4.own b ⟨(0,m),_,u,by rw[bM];exact g1,by rw[bM];exact g3,q⟩
 ·rw[e1] at f1;cases f1;refine⟨Aw q8 e2,_,by rw[wu];exact dw _ _ _,fun bB es' e=> ?_⟩;obtain⟨_,rfl⟩:=mM (lab:=none) e;exact⟨ax _,fun _=>by rw[wu,<-hlen,dw]⟩
end
attribute [go_sem ↓] alz abB
attribute [go_sem] aoU KD wu abA aeZ aly
def su(s:List UInt8):ak:=.mk 1 s []
def wJ(s:List UInt8)(l:List ak):ak:=.mk 2 s l
def Ik(s:List UInt8)(t:ak):ak:=.mk 3 s [t]
def alA(s:List UInt8):ak:=.mk 4 s []
def KE:List (List UInt8):=[[105,110,116],[98,111,111,108],[117,110,105,116]]
def Il:List (List UInt8):=[[108,105,115,116],[108,105,115,116],[98,111,120]]
def qp{bs:List Int}(vars:List (List UInt8)):Nat->Cu bs->ak×Cu bs
 |0,c=>if(aY 8 c).1<3/\0<vars.length then(su (cK vars (aY 8 c).2).1,(cK vars (aY 8 c).2).2)
  else(wJ (cK KE (aY 8 c).2).1 [],(cK KE (aY 8 c).2).2)
 |n+1,c=>if(aY 8 c).1<3/\0<vars.length then(su (cK vars (aY 8 c).2).1,(cK vars (aY 8 c).2).2)
  else if(aY 8 c).1<5 then(wJ (cK KE (aY 8 c).2).1 [],(cK KE (aY 8 c).2).2)
  else if(aY 8 c).1=5 then(wJ [112,97,105,114] [(qp vars n (aY 8 c).2).1,(qp vars n (qp vars n (aY 8 c).2).2).1],(qp vars n (qp vars n (aY 8 c).2).2).2)
  else(wJ (cK Il (aY 8 c).2).1 [(qp vars n (cK Il (aY 8 c).2).2).1],(qp vars n (cK Il (aY 8 c).2).2).2)
def fO(l:List (List UInt8)):Prop:=∀s∈l,s.length<=8
theorem iA{bs:List Int}{xs:List (List UInt8)}(c:Cu bs)(h:fO xs):(cK xs c).1.length<=8:=by
 by_cases h1:1<=xs.length
 ·exact h _ (Ms c h1)
 ·have:xs=[]:=bz gA;subst this;simp[cK]
theorem RA:fO KE:=by unfold fO;decide
theorem short_list:fO Il:=by unfold fO;decide
theorem rX(s:List UInt8):(su s).sz=s.length:=by simp[su,ak.sz,ak.aC,bX,D.sz,aS,ak.fName,ak.fArgs]
theorem Uq(s:List UInt8):(wJ s []).sz=s.length:=by simp[wJ,ak.sz,ak.aC,bX,D.sz,aS,ak.fName,ak.fArgs]
theorem Ol(s:List UInt8)(t:ak):(wJ s [t]).sz=s.length+1+t.sz:=by
 have:=ak.dY t;simp only[wJ,ak.sz,ak.aC,bX,D.sz,aS,ak.fName,ak.fArgs,af,aw,aa,al] at this ⊢;omega
theorem acR(s:List UInt8)(t u:ak):(wJ s [t,u]).sz=s.length+2+t.sz+u.sz:=by
 have h1:=ak.dY t;have h2:=ak.dY u;simp only[wJ,ak.sz,ak.aC,bX,D.sz,aS,ak.fName,ak.fArgs,af,aw,aa,al] at h1 h2 ⊢;omega
theorem Mv{bs:List Int}{vars:List (List UInt8)}(hv:fO vars):∀(n:Nat)(c:Cu bs),(qp vars n c).1.sz+10<=18*2^n
 |0,c=>by
  rw[qp];split
  ·have:=iA (aY 8 c).2 hv;simp only[rX];omega
  ·have:=iA (aY 8 c).2 RA;simp only[Uq];omega
 |n+1,c=>by
  have ih:=Mv hv n (bs:=bs)
  have hp:2^ (n+1)=2^n+2^n:=by rw[gv];omega
  have h2:=Nat.one_le_two_pow (n:=n);rw[qp];split
  ·have:=iA (aY 8 c).2 hv;simp only[rX];omega
  split
  ·have:=iA (aY 8 c).2 RA;simp only[Uq];omega
  split
  ·have h3:=ih (aY 8 c).2;have h4:=ih (qp vars n (aY 8 c).2).2;simp only[acR,aa,al];omega
  ·have h3:=ih (cK Il (aY 8 c).2).2;have:=iA (aY 8 c).2 short_list;simp only[Ol];omega
def tyP(t:ak):List C:=[.d (.i .i64 t.aN),.d (.s t.fName)]
theorem Vq(t:ak):GA (tyP t)=true:=rfl
def RB(t:ak)(S':Store)(r:V)(own:List Obj)(S1:Store):Prop:=S1=S'/\∃x,r=.agg (tyP t++x::[])/\Mt own x 3 (t.fArgs.map ak.enc)
theorem Y3(l:List ak):∀y∈l.map ak.enc,y.length=3:=by
 intro y hy;obtain⟨x,_,rfl⟩:=cr.1 hy;rw[ak.aC];rfl
theorem iB(s:List UInt8):aD prog 115 [.c (.d (.s s))] (.agg [.d (.i .i64 1),.d (.s s),.bH []]):=fun S=>by
 refine zcx [.cell 2 73] func115 ntmps115 ?_;exact Z1
 first|done|exact⟨rfl,rfl⟩|rfl
theorem Vr(s:List UInt8)(l:List ak){es:List (List D)}(he:es=l.map ak.enc)(hl:l.length<=1048576){a:C}(ha:a=.d (.sl es)\/a=.bH es)(S:Store):uK prog 120 [.c (.d (.s s)),.c a] S (RB (wJ s l) S):=by
 subst he;refine Gz (rs:=[.cell 4 73]) zmx func120 ntmps120 rfl rfl rfl rfl rfl ?_;have hln:=Y3 l;rcases ha with rfl|rfl
 all_goals
  refine W1 ?_;refine⟨hln,⟨_,rfl,rfl⟩,fun y hy=>absurd hy fc,gA,rfl,_,rfl,.inl ⟨1,rfl,rfl⟩⟩
theorem xH{f:FuncId}{args:List V}{S S':Store}{t:ak}(h:uK prog f args S (RB t S')):bS prog f args S (fun r S1=>r=.agg [.d (.i .i64 t.aN),.d (.s t.fName),.d (.sl (t.fArgs.map ak.enc))]/\S1=S'):=
 uK.plain (Vq t) rfl h
theorem RD{f:FuncId}{args:List V}{S S':Store}{t:ak}(ht:Gy S'=true)(h:uK prog f args S (RB t S')):
 bS prog f args S (fun r S1=>r=.agg [.d (.i .i64 t.aN),.d (.s t.fName),.bJ (0,Ew S') (t.fArgs.map ak.enc)]/\S1=Ry S' [.tok 3 (t.fArgs.map ak.enc)]):=
 uK.push (Vq t) rfl ht h
theorem BF(s:List UInt8)(l:List ak){es:List (List D)}(he:es=l.map ak.enc)(hl:l.length<=1048576){a:C}(ha:a=.d (.sl es)\/a=.bH es){own:List Ab.Obj}{Ω:Store}:
 bS prog 120 [.c (.d (.s s)),.c a] (own::Ω) (fun r S1=>r=.agg [.d (.i .i64 2),.d (.s s),.bJ (0,own.length) es]/\S1=(own++[.tok 3 es])::Ω):=by
 have:=RD (S':=own::Ω) rfl (Vr s l he hl ha (own::Ω));rw[he];exact this
theorem zZ(s:List UInt8)(l:List ak){es:List (List D)}(he:es=l.map ak.enc)(hl:l.length<=1048576){a:C}(ha:a=.d (.sl es)\/a=.bH es):aD prog 120 [.c (.d (.s s)),.c a] (.agg [.d (.i .i64 2),.d (.s s),.d (.sl es)]):=fun S=>by
 have:=xH (Vr s l he hl ha S);rw[he];exact this
theorem Y4{bs:List Int}{xs:List (List UInt8)}(c:Cu bs)(hi:(aY (xs.length:Int) c).1.toNat<xs.length):xs[(aY (xs.length:Int) c).1.toNat]=(cK xs c).1:=by
 simp only[cK,List.getD,am hi,dq]
theorem KF{bs:List Int}(hB:Bytes bs){vars:List (List UInt8)}(hv:vars.length<=256):∀(n:Nat)(c:Cu bs)(l j:Nat)(S:Store),bC S (l,j)=some (.box (cur c))->n<=1048576->
 uK prog 122 [.c (.ptr (l,j) 0),.c (.d (.sl (vars.map encS))),.c (.d (.i .i64 n))] S (RB (qp vars n c).1 (bA S (l,j) (.box (cur (qp vars n c).2)))):=by
 intro n
 induction n with
 |zero=>
  intro c l j S hk hn;have g:∀x:Ab.Obj,bC (bA S (l,j) x) (l,j)=some x:=fun x=>dA _ _ _ _ hk;obtain⟨k,hkd⟩:∃k,k=(aY 8 c).1:=⟨_,rfl⟩;obtain⟨c1,hc1⟩:∃c1,c1=(aY 8 c).2:=⟨_,rfl⟩;rw[qp,<-hkd,<-hc1];refine Gz (rs:=[.cell 6 73]) zmx func122 ntmps122 rfl rfl rfl rfl rfl ?_;refine W1 ?_;refine bD rfl (eB hB c (1+l) j _ 8 (by rw[aW];exact hk) gA gA) ?_;rw[<-hkd,<-hc1];have d0:decide (((0:Nat):Int)<=0)=true:=rfl;refine W1 ?_;refine S0o (fun hb h=>?_) fun hb h=>?_
  rotate_left
  rw[if_neg gA]
  rotate_left
  refine S0o (fun hb h=>?_) fun hb h=>?_
  ·have hx:=iF (n:=vars.length) c1 gA
   have hi:(aY (vars.length:Int) c1).1.toNat<vars.length:=gA
   rw[if_pos ⟨gA,gA⟩];refine bD rfl (eB hB c1 (1+l) j _ vars.length gO gA gA) ?_;refine wm ?_;refine W3 ?_;rw[Y4 c1 hi];refine C2 (iB (cK vars c1).1) ?_;exact⟨rfl,_,rfl,.inr ⟨rfl,fun e he=>by cases he⟩⟩
  rw[if_neg gA]
  all_goals refine S0o (fun hb h=>?_) fun hb h=>?_
  all_goals
   refine dX [true] rfl (gB hB c1 (1+l) j _ KE gO gE gE) ?_;refine W1 ?_;refine bD rfl (BF _ [] rfl (an _) (.inr rfl)) ?_;refine W1 ?_;exact⟨rfl,_,rfl,.inl ⟨1,rfl,rfl⟩⟩
 |succ n ih=>
  intro c l j S hk hn;have g:∀x:Ab.Obj,bC (bA S (l,j) x) (l,j)=some x:=fun x=>dA _ _ _ _ hk;obtain⟨k,hkd⟩:∃k,k=(aY 8 c).1:=⟨_,rfl⟩;obtain⟨c1,hc1⟩:∃c1,c1=(aY 8 c).2:=⟨_,rfl⟩;have ih1:=fun c l j S hk=>xH (ih c l j S hk gA);rw[qp,<-hkd,<-hc1];refine Gz (rs:=[.cell 6 73]) zmx func122 ntmps122 rfl rfl rfl rfl rfl ?_;refine W1 ?_;refine bD rfl (eB hB c (1+l) j _ 8 (by rw[aW];exact hk) gA gA) ?_;rw[<-hkd,<-hc1];have d0:decide (((n+1:Nat):Int)<=0)=false:=decide_eq_false gA
  have d1:((n+1:Nat):Int)-1=(n:Int):=gA
  refine W1 ?_;refine S0o (fun hb h=>?_) fun hb h=>?_
  rotate_left
  rw[if_neg gA]
  rotate_left
  refine S0o (fun hb h=>?_) fun hb h=>?_
  ·have hx:=iF (n:=vars.length) c1 gA
   have hi:(aY (vars.length:Int) c1).1.toNat<vars.length:=gA
   rw[if_pos ⟨gA,gA⟩];refine bD rfl (eB hB c1 (1+l) j _ vars.length gO gA gA) ?_;refine wm ?_;refine W3 ?_;rw[Y4 c1 hi];refine C2 (iB (cK vars c1).1) ?_;exact⟨rfl,_,rfl,.inr ⟨rfl,fun e he=>by cases he⟩⟩
  rw[if_neg gA]
  all_goals
   refine S0o (fun hb h=>?_) fun hb h=>?_
   ·rw[if_pos gA];refine dX [true] rfl (gB hB c1 (1+l) j _ KE gO gE gE) ?_;refine W1 ?_;refine bD rfl (BF _ [] rfl (an _) (.inr rfl)) ?_;refine W1 ?_;exact⟨rfl,_,rfl,.inl ⟨1,rfl,rfl⟩⟩
   rw[if_neg gA];refine EO (fun hb h=>?_) fun hb h=>?_
   ·rw[if_pos gA];refine bD rfl (ih1 c1 (1+l) j _ gO) ?_;refine nL ?_;refine bD rfl (ih1 (qp vars n c1).2 (1+l) j _ gO) ?_;refine W1 ?_;refine W3 ?_;refine bD rfl (BF _ [(qp vars n c1).1,(qp vars n (qp vars n c1).2).1] (by simp only[af,aw,ak.aC]) gL (.inr rfl)) ?_;refine W1 ?_;refine⟨rfl,_,rfl,.inl ⟨1,?_,?_⟩⟩<;>simp only[wJ,ak.fArgs,af,aw,ak.aC]<;>rfl
   ·rw[if_neg gA];refine dX [true] rfl (gB hB c1 (1+l) j _ Il gO gE gE) ?_;refine nL ?_;refine bD rfl (ih1 (cK Il c1).2 (1+l) j _ gO) ?_;refine W1 ?_;refine W3 ?_;refine bD rfl (BF _ [(qp vars n (cK Il c1).2).1] (by simp only[af,aw,ak.aC]) gL (.inr rfl)) ?_;refine W1 ?_;refine⟨rfl,_,rfl,.inl ⟨1,?_,?_⟩⟩<;>simp only[wJ,ak.fArgs,af,aw,ak.aC]<;>rfl
def Lj:List (List UInt8):=[[97],[98]]
def Mw:List (List UInt8):=[[97,100,100],[115,104,111,119]]
theorem PZ:fO Lj:=by unfold fO;decide
theorem abC:fO Mw:=by unfold fO;decide
def ae1{bs:List Int}(t:ak)(c:Cu bs):ak×Cu bs:=
 if(aY 8 c).1=0 then(Ik (cK Mw (aY 8 c).2).1 t,(cK Mw (aY 8 c).2).2) else
 if(aY 8 c).1=1 then(wJ [108,105,115,116] [Ik [97,100,100] t],(aY 8 c).2) else
 if(aY 8 c).1=2 then(alA [115,104,111,119],(aY 8 c).2) else(t,(aY 8 c).2)
def uL{bs:List Int}(n:Nat)(c:Cu bs):ak×Cu bs:=ae1 (qp Lj n c).1 (qp Lj n c).2
def wK:ak:=wJ [105,110,116] []
theorem acS(s:List UInt8)(t:ak):(Ik s t).sz=s.length+1+t.sz:=by
 have:=ak.dY t;simp only[Ik,ak.sz,ak.aC,bX,D.sz,aS,ak.fName,ak.fArgs,af,aw,aa,al] at this ⊢;omega
theorem aq1(s:List UInt8):(alA s).sz=s.length:=by simp[alA,ak.sz,ak.aC,bX,D.sz,aS,ak.fName,ak.fArgs]
theorem GD{bs:List Int}(n:Nat)(c:Cu bs):(uL n c).1.sz<=18*2^n+10:=by
 have h:=Mv PZ n c;unfold uL ae1;split
 ·have:=iA (aY 8 (qp Lj n c).2).2 abC;simp only[acS];omega
 split
 ·simp only[Ol,acS,aa,al];omega
 split
 ·simp only[aq1,aa,al];omega
 ·show(qp Lj n c).1.sz<=_;omega
theorem Vs(s:List UInt8)(t:ak)(h:t.sz<=4194304):aD prog 179 [.c (.d (.s s)),t.v] (.agg [.d (.i .i64 3),.d (.s s),.bH ([t].map ak.enc)]):=fun S=>by
 refine zcx [.cell 4 73] func179 ntmps179 ?_;refine W1 ?_;exact C4 (ah0 t h)
theorem tK:aD prog 116 [] wK.v:=fun S=>by
 refine zcx [.cell 0 73] func116 ntmps116 ?_;refine W1 ?_;refine C1 (zZ [105,110,116] [] rfl (an _) (.inl rfl)) ?_
 first|done|exact⟨rfl,rfl⟩|rfl
theorem ae2{bs:List Int}(hB:Bytes bs)(n:Nat)(c:Cu bs)(l j:Nat)(S:Store)(hk:bC S (l,j)=some (.box (cur c)))(hn:n<=16):
 uK prog 121 [.c (.ptr (l,j) 0),.c (.d (.i .i64 n))] S (RB (uL n c).1 (bA S (l,j) (.box (cur (uL n c).2)))):=by
 have g:∀x:Ab.Obj,bC (bA S (l,j) x) (l,j)=some x:=fun x=>dA _ _ _ _ hk;unfold uL;obtain⟨t,ht⟩:∃t,t=(qp Lj n c).1:=⟨_,rfl⟩;obtain⟨c1,hc1⟩:∃c1,c1=(qp Lj n c).2:=⟨_,rfl⟩
 have hsz:t.sz<=4194304:=by
  have:=Mv PZ n c;have h2:2^n<=2^16:=gc gA hn;rw[ht];omega
 rw[<-ht,<-hc1];unfold ae1;obtain⟨k,hkd⟩:∃k,k=(aY 8 c1).1:=⟨_,rfl⟩;obtain⟨c2,hc2⟩:∃c2,c2=(aY 8 c1).2:=⟨_,rfl⟩;rw[<-hkd,<-hc2];refine aoV [40] (rs:=[.cell 4 73]) zmx func121 ntmps121 rfl rfl rfl rfl rfl ?_;refine W1 ?_
 have h1:=RD (S':=[.box [.d (.i .i64 0),.d (.s []),.bH []]]::bA S (l,j) (.box (cur (qp Lj n c).2))) rfl (by
  have:=KF hB (vars:=Lj) gE n c (1+l) j ([.box [.d (.i .i64 0),.d (.s []),.bH []]]::S) (by rw[aW];exact hk) gA;rw[dn] at this
  exact this)
 rw[<-ht,<-hc1] at h1;refine dX [true] rfl h1 ?_;refine W1 ?_;refine bD rfl (eB hB c1 (1+l) j _ 8 gO gA gA) ?_;rw[<-hkd,<-hc2];refine W1 ?_;refine S0 (fun hb h=>?_) fun hb h=>?_
 ·rw[if_pos h];refine dX [true] rfl (gB hB c2 (1+l) j _ Mw gO gE gE) ?_;refine W1 ?_;refine C1 (Vs (cK Mw c2).1 t hsz) ?_;refine⟨by cases l<;>rfl,?_⟩;refine W1 ?_;exact⟨rfl,_,rfl,.inr ⟨by simp[Ik,ak.fArgs,ak.aC],Y3 [t]⟩⟩
 rw[if_neg h];refine S0 (fun hb h=>?_) fun hb h=>?_
 ·rw[if_pos h];refine C1 (Vs [97,100,100] t hsz) ?_;refine W3 ?_;refine bD rfl (BF _ [Ik [97,100,100] t] (by simp[Ik,ak.aC,ak.aN,ak.fName,ak.fArgs]) gL (.inr rfl)) ?_;refine W1 ?_;refine⟨rfl,_,rfl,.inl ⟨3,?_,?_⟩⟩<;>simp[wJ,Ik,ak.aC,ak.aN,ak.fName,ak.fArgs]
 rw[if_neg h];refine S0 (fun hb h=>?_) fun hb h=>?_
 ·rw[if_pos h];exact⟨rfl,_,rfl,.inr ⟨rfl,fun e he=>by cases he⟩⟩
 rw[if_neg h];exact⟨rfl,_,rfl,.inl ⟨1,rfl,rfl⟩⟩
theorem D5{bs:List Int}(hB:Bytes bs)(n:Nat)(c:Cu bs)(l j:Nat)(S:Store)(hk:bC S (l,j)=some (.box (cur c)))(hn:n<=16):
 bS prog 121 [.c (.ptr (l,j) 0),.c (.d (.i .i64 n))] S (fun r S1=>r=(uL n c).1.v/\S1=bA S (l,j) (.box (cur (uL n c).2))):=
 xH (ae2 hB n c l j S hk hn)
section
variable {w:World} {σ:Nat->Nat}
def Xv:C->Option D
 | .d d=>some d
 | .bH es=>some (.sl es)
 | .bJ _ es=>some (.sl es)
 |_=>none
theorem ah1{S S':Store}{β β':Hs}{c:C}{d:D}{v:Value}(h:Xv c=some d)(hr:jc w σ S β c v):jc w σ S' β' (.d d) v:=by
 cases c<;>simp only[Xv,cC] at h<;>first|(cases h;done)|(subst h;first|exact hr|exact hr.1)
theorem Mx{S S':Store}{β β':Hs}{pre:List C}{ds:List D}{x x' y y':C}{a:List Value}(h1:pre.map Xv=ds.map some)(hr:gN w σ S β (pre++[x,y]) a)
 (hx:∀v,a[pre.length]? =some v->jc w σ S β x v->jc w σ S' β' x' v)(hy:∀v,a[pre.length+1]? =some v->jc w σ S β y v->jc w σ S' β' y' v):gN w σ S' β' (ds.map .d++[x',y']) a:=by
 have hl:pre.length=ds.length:=by have:=congrArg List.length h1;simpa using this
 refine⟨by have:=hr.1;simp only[ae,ab,aa,al,hl] at this ⊢;exact this,fun j c hc=> ?_⟩;rcases fh j pre.length with hj|hj
 ·rw[aq gR,bE] at hc;obtain⟨d,hd,rfl⟩:=Option.map_eq_some_iff.1 hc;have hp:=congrArg (fun l=>l[j]?) h1;simp only[bE,hd,dC,am hj] at hp;obtain⟨v,e1,e2,e3⟩:=hr.2 j pre[j] (by rw[aq hj,am hj]);exact⟨v,e1,ah1 (cL hp) e2,e3⟩
 obtain⟨k,rfl⟩:∃k,j=pre.length+k:=⟨j-pre.length,gA⟩;rw[ag gR,ab,<-hl,cY] at hc
 match k,hc with
 |0,hc=>
  cases hc;obtain⟨v,e1,e2,e3⟩:=hr.2 pre.length x (by rw[ag (ax _),cM];rfl);exact⟨v,e1,hx v e1 e2,e3⟩
 |1,hc=>
  cases hc;obtain⟨v,e1,e2,e3⟩:=hr.2 (pre.length+1) y (by rw[ag gA,cY];rfl);exact⟨v,e1,hy v e1 e2,e3⟩
 |k+2,hc=>simp at hc
end
section
variable {P:Program} {S S':Store} {f:FuncId} {args:List V}
def Two(ds:List D)(z z':Nat)(es es':List (List D))(S':Store)(r:V)(own:List Obj)(S1:Store):Prop:=S1=S'/\∃pre x y,r=.agg (pre++[x,y])/\pre.map Xv=ds.map some/\Mt own x z es/\Mt own y z' es'
theorem uK.aq2{ds:List D}{z z':Nat}{es es':List (List D)}(h:uK P f args S (Two ds z z' es es' S')):
 bS P f args S fun r S1=>r=.agg (ds.map .d++[.d (.sl es),.d (.sl es')])/\S1=S':=by
 refine⟨h.1,fun w σ β vs hS hv=>(h.2 w σ β vs hS hv).mono fun e w' ⟨v,r,own,S1,bo,β1,σ',q1,q2,q3,q4,q5,q6,pre,x,y,q7,h1,q8,q9⟩=> ?_⟩;subst q6 q7;obtain⟨a,rfl,hc⟩:=q5;exact⟨_,.agg (ds.map .d++[.d (.sl es),.d (.sl es')]),S1,σ',β1,q1,q2.NZ,q3,⟨q4.size,q4.os,q4.output,q4.far,q4.near,fun b hb=>q4.own b (Aq hb)⟩,⟨a,rfl,Mx (x':=.d (.sl es)) (y':=.d (.sl es')) h1 hc (fun v e1 e2=>Aw q8 e2) (fun v e1 e2=>Aw q9 e2)⟩,rfl,rfl⟩
theorem uK.atu{ds:List D}{z z':Nat}{es es':List (List D)}(hz:z≠z')(ht:Gy S'=true)(h:uK P f args S (Two ds z z' es es' S')):
 bS P f args S fun r S1=>r=.agg (ds.map .d++[.bJ (0,Ew S') es,.bJ (0,Ew S'+1) es'])/\S1=Ry S' [.tok z es,.tok z' es']:=by
 refine⟨h.1,fun w σ β vs hS hv=>(h.2 w σ β vs hS hv).mono fun e w' ⟨v,r,own,S1,bo,β1,σ',q1,q2,q3,q4,q5,q6,pre,x,y,q7,h1,q8,q9⟩=> ?_⟩;subst q6 q7;obtain⟨a,rfl,hc⟩:=q5;obtain⟨u,e1,e2,e3⟩:=hc.2 pre.length x (by rw[ag (ax _),cM];rfl);obtain⟨u',OT,e2',e3'⟩:=hc.2 (pre.length+1) y (by rw[ag gA,cY];rfl);obtain⟨k1,k2⟩:=PY q2 q8 e2;obtain⟨k1',k2'⟩:=PY q2 q9 e2'
 cases S1 with
 |nil=>cases ht
 |cons fr Ω=>
 have hd:=q2.NZ
 obtain⟨bf,bΩ,rfl,hlen⟩:∃bf bΩ,β1=bf::bΩ/\bf.length=fr.length:=by
  cases β1 with
  |nil=>have:=hd.shape.1;simp at this
  |cons bf bΩ=>
   refine⟨bf,bΩ,rfl,?_⟩;obtain⟨gr,q1,q2⟩:=hd.shape.2 0 fr rfl;simp at q1;rw[q1];exact q2
 obtain⟨l1,l2,l3⟩:=hd.lay (o:=.tok z es) (h:=u) hlen (k1 _ _) fun b hb ⟨k,o,hh,f1,f2,f3⟩=>by
  obtain⟨m,g1,g2,g3⟩:=k2 b hb;have:=q2.apart (0,m) (k.1+1,k.2) _ o u hh b (by rw[bM];exact g1) (by rw[bM];exact g3) hb (by rw[dG];exact f1) (by rw[dG];exact f2) f3;cases this
 obtain⟨l4,l5,l6⟩:=l1.lay (o:=.tok z' es') (h:=u') (by simp[hlen]) (k1' _ _) fun b hb ⟨k,o,hh,f1,f2,f3⟩=>by
  obtain⟨m',g1',g2',g3'⟩:=k2' b hb;rcases l3 b ⟨k,o,hh,f1,f2,f3⟩ with⟨k,o,hh,f1,f2,f3⟩|q
  ·have:=q2.apart (0,m') (k.1+1,k.2) _ o u' hh b (by rw[bM];exact g1') (by rw[bM];exact g3') hb (by rw[dG];exact f1) (by rw[dG];exact f2) f3;cases this
  ·obtain⟨m,g1,g2,g3⟩:=k2 b q;have:=q2.apart (0,m') (0,m) _ _ u' u b (by rw[bM];exact g1') (by rw[bM];exact g3') hb (by rw[bM];exact g1) (by rw[bM];exact g3) q;cases this;rw[g1] at g1';injection g1' with g1';injection g1' with g1';exact hz g1'
 have el:(fr++[Obj.tok z es]).length=fr.length+1:=gL
 refine⟨_,.agg (ds.map .d++[.bJ (0,Ew (fr::Ω)) es,.bJ (0,Ew (fr::Ω)+1) es']),_,σ',_,q1,l4,(q3.trans l2).trans l5,⟨q4.size,q4.os,q4.output,q4.far,q4.near,fun b hb=> ?_⟩,⟨a,rfl,Mx h1 hc (fun v f1 f2=> ?_) fun v f1 f2=> ?_⟩,rfl,?_⟩
 ·rcases l6 b hb with q|q
  ·rcases l3 b q with q|q
   ·exact q4.own b (Aq q)
   ·obtain⟨m,g1,g2,g3⟩:=k2 b q;exact q4.own b ⟨(0,m),_,u,by rw[bM];exact g1,by rw[bM];exact g3,q⟩
  ·obtain⟨m,g1,g2,g3⟩:=k2' b q;exact q4.own b ⟨(0,m),_,u',by rw[bM];exact g1,by rw[bM];exact g3,q⟩
 ·rw[e1] at f1;cases f1;refine⟨Aw q8 e2,.tok z es,?_,fun bB es' e=> ?_⟩
  ·rw[wu,bM,aq gL,ag (ax _),cM];rfl
  obtain⟨_,rfl⟩:=mM (lab:=none) e;refine⟨ax _,fun _=> ?_⟩;rw[wu,bM,<-hlen,aq gL,ag (ax _),cM];rfl
 ·rw[OT] at f1;cases f1;refine⟨Aw q9 e2',.tok z' es',?_,fun bB es' e=> ?_⟩
  ·rw[wu,<-el];exact dw _ _ _
  obtain⟨_,rfl⟩:=mM (lab:=none) e;refine⟨ax _,fun _=> ?_⟩;rw[wu,<-el,show(fr++[Obj.tok z es]).length=(bf++[u]).length by simp[hlen]];exact dw _ _ _
 ·rw[KD,cf];rfl
end
def zT:ak:=.mk 0 [] []
def nP(n:Int):au:=.mk 1 [] [] n zT [] []
def zf(n:Int):au:=.mk 2 [] [] n zT [] []
def zC(s:List UInt8):au:=.mk 3 [] s 0 zT [] []
def sS(k:Int)(s:List UInt8)(l:List au):au:=.mk k [] s 0 zT l []
def Ay:List (List UInt8):=[[102],[103]]
def Dm:List (List UInt8):=[[115,104,111,119],[97,100,100]]
def zh:List (List UInt8):=[[43],[45],[42],[60],[61]]
theorem Y5:fO Ay:=by unfold fO;decide
theorem ae3:fO Dm:=by unfold fO;decide
theorem ae4:fO zh:=by unfold fO;decide
def aL:List (List UInt8):=[[97]]
theorem aoW:fO aL:=by unfold fO;decide
def nK{bs:List Int}(k:Int)(sub:List (List UInt8)->Cu bs->au×Cu bs)(vars:List (List UInt8))(c:Cu bs):au×Cu bs:=
 if k=1 then(zf (aY 2 c).1,(aY 2 c).2) else
 if(k=2\/k=3)/\0<vars.length then(zC (cK vars c).1,(cK vars c).2) else
 if k=4 then(sS 4 (cK Ay c).1 [(sub vars (cK Ay c).2).1],(sub vars (cK Ay c).2).2) else
 if k=5 then(.mk 5 (cK Dm c).1 [109] 0 zT [(sub vars (cK Dm c).2).1,(sub vars (sub vars (cK Dm c).2).2).1] [],(sub vars (sub vars (cK Dm c).2).2).2) else
 if k=6 then(sS 6 [99,111,110,115] [(sub vars c).1,(sub vars (sub vars c).2).1],(sub vars (sub vars c).2).2) else
 if k=7 then(.mk 7 [] [] 0 zT [(sub vars c).1] [.mk [110,105,108] [] (sub vars (sub vars c).2).1,.mk [99,111,110,115] [[104],[116]] (sub (vars++[[104],[116]]) (sub vars (sub vars c).2).2).1],(sub (vars++[[104],[116]]) (sub vars (sub vars c).2).2).2) else
 if k=8 then(sS 8 [121] [(sub vars c).1,(sub (vars++[[121]]) (sub vars c).2).1],(sub (vars++[[121]]) (sub vars c).2).2) else
 if k=9 then(sS 9 [] [(sub vars c).1,(sub vars (sub vars c).2).1,(sub vars (sub vars (sub vars c).2).2).1],(sub vars (sub vars (sub vars c).2).2).2) else
 if k=10 then(sS 10 (cK zh c).1 [(sub vars (cK zh c).2).1,(sub vars (sub vars (cK zh c).2).2).1],(sub vars (sub vars (cK zh c).2).2).2) else
 if k=11 then(.mk 11 [115,104,111,119] [] 0 zT [(sub vars c).1] [],(sub vars c).2) else
 if k=12 then(.mk 12 [] [] 0 (qp aL 1 c).1 [(sub vars (qp aL 1 c).2).1] [],(sub vars (qp aL 1 c).2).2) else
 (nP ((aY 20 c).1-5),(aY 20 c).2)
def iX{bs:List Int}:Nat->List (List UInt8)->Cu bs->au×Cu bs
 |0,vars,c=>nK ((aY 13 c).1.tmod 3) (fun _ c=>(nP 0,c)) vars (aY 13 c).2
 |n+1,vars,c=>nK (aY 13 c).1 (iX n) vars (aY 13 c).2
theorem fO.append{a b:List (List UInt8)}(h:fO a)(k:fO b):fO (a++b):=fun s hs=>(dm.1 hs).elim (h s) (k s)
theorem pV(k:Int)(t s:List UInt8)(n:Int)(ty:ak)(a:List au)(b:List bq):(au.mk k t s n ty a b).sz=t.length+s.length+ty.sz+a.length+aS (a.map au.enc)+b.length+aS (b.map bq.enc):=by
 have:=ak.dY ty;simp only[au.sz,au.aC,bX,bT,D.sz,ab,au.aN,au.bO,au.fName,au.fN,au.fType,au.fArgs,au.aX,this];omega
theorem wY(s:List UInt8)(v:List (List UInt8))(b:au):bX (bq.mk s v b).enc=s.length+v.length+aS (v.map encS)+b.sz:=by
 have:=au.dY b;simp only[bq.aC,bX,bT,D.sz,ab,bq.dV,bq.aG,bq.fBody,this];omega
theorem sw:zT.sz=0:=by simp[zT,ak.sz,ak.aC,bX,D.sz,aS,ak.fName,ak.fArgs]
theorem Y6{bs:List Int}{k:Int}{sub:List (List UInt8)->Cu bs->au×Cu bs}{vars:List (List UInt8)}{m:Nat}(hv:fO vars)(hs:∀v c,fO v->(sub v c).1.sz<=m)(c:Cu bs):(nK k sub vars c).1.sz<=3*m+40:=by
 have h1:=fun c=>hs vars c hv;have h2:=fun c=>hs (vars++[[104],[116]]) c (hv.append (by unfold fO;decide));have h3:=fun c=>hs (vars++[[121]]) c (hv.append (by unfold fO;decide));unfold nK;by_cases e0:k=1
 ·rw[if_pos e0];simp only[zf,zC,sS,nP,pV,wY,sw,af,aw,aa,al,aS,au.dY,encS,bX,D.sz];omega
 rw[if_neg e0];by_cases e1:(k=2\/k=3)/\0<vars.length
 ·rw[if_pos e1];simp only[zf,zC,sS,nP,pV,wY,sw,af,aw,aa,al,aS,au.dY,encS,bX,D.sz];have:=iA c hv;omega
 rw[if_neg e1];by_cases e2:k=4
 ·rw[if_pos e2];simp only[zf,zC,sS,nP,pV,wY,sw,af,aw,aa,al,aS,au.dY,encS,bX,D.sz];have:=iA c Y5;have:=h1 (cK Ay c).2;omega
 rw[if_neg e2];by_cases e3:k=5
 ·rw[if_pos e3];simp only[zf,zC,sS,nP,pV,wY,sw,af,aw,aa,al,aS,au.dY,encS,bX,D.sz];have:=iA c ae3;have:=h1 (cK Dm c).2;have:=h1 (sub vars (cK Dm c).2).2;omega
 rw[if_neg e3];by_cases e4:k=6
 ·rw[if_pos e4];simp only[zf,zC,sS,nP,pV,wY,sw,af,aw,aa,al,aS,au.dY,encS,bX,D.sz];have:=h1 c;have:=h1 (sub vars c).2;omega
 rw[if_neg e4];by_cases e5:k=7
 ·rw[if_pos e5];simp only[zf,zC,sS,nP,pV,wY,sw,af,aw,aa,al,aS,au.dY,encS,bX,D.sz];have:=h1 c;have:=h1 (sub vars c).2;have:=h2 (sub vars (sub vars c).2).2;omega
 rw[if_neg e5];by_cases e6:k=8
 ·rw[if_pos e6];simp only[zf,zC,sS,nP,pV,wY,sw,af,aw,aa,al,aS,au.dY,encS,bX,D.sz];have:=h1 c;have:=h3 (sub vars c).2;omega
 rw[if_neg e6];by_cases e7:k=9
 ·rw[if_pos e7];simp only[zf,zC,sS,nP,pV,wY,sw,af,aw,aa,al,aS,au.dY,encS,bX,D.sz];have:=h1 c;have:=h1 (sub vars c).2;have:=h1 (sub vars (sub vars c).2).2;omega
 rw[if_neg e7];by_cases e8:k=10
 ·rw[if_pos e8];simp only[zf,zC,sS,nP,pV,wY,sw,af,aw,aa,al,aS,au.dY,encS,bX,D.sz];have:=iA c ae4;have:=h1 (cK zh c).2;have:=h1 (sub vars (cK zh c).2).2;omega
 rw[if_neg e8];by_cases e9:k=11
 ·rw[if_pos e9];simp only[zf,zC,sS,nP,pV,wY,sw,af,aw,aa,al,aS,au.dY,encS,bX,D.sz];have:=h1 c;omega
 rw[if_neg e9];by_cases e10:k=12
 ·rw[if_pos e10];simp only[zf,zC,sS,nP,pV,wY,sw,af,aw,aa,al,aS,au.dY,encS,bX,D.sz];have:=Mv aoW 1 c;have:=h1 (qp aL 1 c).2;omega
 rw[if_neg e10];simp only[zf,zC,sS,nP,pV,wY,sw,af,aw,aa,al,aS,au.dY,encS,bX,D.sz];omega
theorem P5{bs:List Int}:∀(n:Nat)(vars:List (List UInt8))(c:Cu bs),fO vars->(iX n vars c).1.sz+20<=60*3^n
 |0,vars,c,hv=>by
  have:=Y6 (k:=(aY 13 c).1.tmod 3) (sub:=fun _ c=>(nP 0,c)) (m:=0) hv (fun v c _=>by simp[nP,pV,sw,aS]) (aY 13 c).2;rw[iX];omega
 |n+1,vars,c,hv=>by
  have ih:=P5 n (bs:=bs);have:=Y6 (k:=(aY 13 c).1) (sub:=iX n) (m:=60*3^n-20) hv (fun v c h=>by have:=ih v c h;omega) (aY 13 c).2;have h1:1<=3^n:=Nat.one_le_pow _ _ gA;rw[iX,gv];omega
theorem wL(k:Int)(t s:List UInt8)(n:Int)(ty:ak)(a:List au)(b:List bq):(au.mk k t s n ty a b).fArgs=a:=rfl
theorem wM(k:Int)(t s:List UInt8)(n:Int)(ty:ak)(a:List au)(b:List bq):(au.mk k t s n ty a b).aX=b:=rfl
theorem zi(s:List UInt8)(v:List (List UInt8))(b:au):(bq.mk s v b).enc=.s s:: .sl (v.map encS)::b.enc:=by rw[bq.aC];rfl
def exP(t:au):List D:=[.i .i64 t.aN,.s t.bO,.s t.fName,.i .i64 t.fN,.i .i64 t.fType.aN,.s t.fType.fName,.sl (t.fType.fArgs.map ak.enc)]
def Xw(t:au)(S':Store):V->List Obj->Store->Prop:=Two (exP t) 9 11 (t.fArgs.map au.enc) (t.aX.map bq.enc) S'
theorem GH(l:List au):∀y∈l.map au.enc,y.length=9:=by
 intro y hy;obtain⟨x,_,rfl⟩:=cr.1 hy;exact au.dK x
theorem alC(l:List bq):∀y∈l.map bq.enc,y.length=11:=by
 intro y hy;obtain⟨x,_,rfl⟩:=cr.1 hy;exact bq.dK x
theorem uM(n:Int):aD prog 119 [.c (.d (.i .i64 n))] (.agg [.d (.i .i64 1),.d (.s []),.d (.s []),.d (.i .i64 n),.d (.i .i64 0),.d (.s []),.bH [],.bH [],.bH []]):=fun S=>by
 refine zcx [.cell 2 83] func119 ntmps119 ?_;exact Z1
 first|done|exact⟨rfl,rfl⟩|rfl
theorem yD(s:List UInt8):aD prog 118 [.c (.d (.s s))] (.agg [.d (.i .i64 3),.d (.s []),.d (.s s),.d (.i .i64 0),.d (.i .i64 0),.d (.s []),.bH [],.bH [],.bH []]):=fun S=>by
 refine zcx [.cell 2 83] func118 ntmps118 ?_;exact Z1
 first|done|exact⟨rfl,rfl⟩|rfl
theorem Im(k:Int)(s:List UInt8)(l:List au){es:List (List D)}(he:es=l.map au.enc)(hl:l.length<=1048576){a:C}(ha:a=.d (.sl es)\/a=.bH es)(S:Store):uK prog 117 [.c (.d (.i .i64 k)),.c (.d (.s s)),.c a] S (Xw (sS k s l) S):=by
 subst he;refine Gz (rs:=[.cell 6 83]) zmx func117 ntmps117 rfl rfl rfl rfl rfl ?_;have hln:=GH l;rcases ha with rfl|rfl
 all_goals
  refine W1 ?_;refine⟨hln,⟨_,rfl,rfl⟩,fun y hy=>absurd hy fc,gA,rfl,[_,_,_,_,_,_,_],_,_,rfl,rfl,.inl ⟨1,rfl,rfl⟩,.inr ⟨rfl,fun e he=>by cases he⟩⟩
theorem xI{f:FuncId}{args:List V}{S S':Store}{t:au}(h:uK prog f args S (Xw t S')):bS prog f args S (fun r S1=>r=t.v/\S1=S'):=
 uK.aq2 h
theorem ae5{f:FuncId}{args:List V}{S S':Store}{t:au}(ht:Gy S'=true)(h:uK prog f args S (Xw t S')):
 bS prog f args S (fun r S1=>r=.agg [.d (.i .i64 t.aN),.d (.s t.bO),.d (.s t.fName),.d (.i .i64 t.fN),.d (.i .i64 t.fType.aN),.d (.s t.fType.fName),.d (.sl (t.fType.fArgs.map ak.enc)),.bJ (0,Ew S') (t.fArgs.map au.enc),.bJ (0,Ew S'+1) (t.aX.map bq.enc)]/\S1=Ry S' [.tok 9 (t.fArgs.map au.enc),.tok 11 (t.aX.map bq.enc)]):=
 uK.atu gE ht h
theorem BG(k:Int)(s:List UInt8)(l:List au){es:List (List D)}(he:es=l.map au.enc)(hl:l.length<=1048576){a:C}(ha:a=.d (.sl es)\/a=.bH es){own:List Ab.Obj}{Ω:Store}:
 bS prog 117 [.c (.d (.i .i64 k)),.c (.d (.s s)),.c a] (own::Ω) (fun r S1=>r=.agg [.d (.i .i64 k),.d (.s []),.d (.s s),.d (.i .i64 0),.d (.i .i64 0),.d (.s []),.d (.sl []),.bJ (0,own.length) es,.bJ (0,own.length+1) []]/\S1=(own++[.tok 9 es,.tok 11 []])::Ω):=by
 have:=ae5 (S':=own::Ω) rfl (Im k s l he hl ha (own::Ω));rw[he];exact this
theorem O0{bs:List Int}(hB:Bytes bs):∀(n:Nat)(vars:List (List UInt8))(c:Cu bs)(l j:Nat)(S:Store),vars.length+2*n<=256->bC S (l,j)=some (.box (cur c))->
 uK prog 123 [.c (.ptr (l,j) 0),.c (.d (.sl (vars.map encS))),.c (.d (.i .i64 n))] S (Xw (iX n vars c).1 (bA S (l,j) (.box (cur (iX n vars c).2)))):=by
 intro n
 induction n with
 |zero=>
  intro vars c l j S hv hk;have g:∀x:Ab.Obj,bC (bA S (l,j) x) (l,j)=some x:=fun x=>dA _ _ _ _ hk;have hx:=iF (n:=13) c gA;have hy:=Int.tmod_lt_of_pos (aY 13 c).1 (b:=3) gA;have hz:=Int.tmod_nonneg 3 hx.1;obtain⟨k,hkd⟩:∃k,k=(aY 13 c).1.tmod 3:=⟨_,rfl⟩;obtain⟨c1,hc1⟩:∃c1,c1=(aY 13 c).2:=⟨_,rfl⟩;rw[iX,<-hkd,<-hc1];obtain⟨q,hq⟩:∃q,q=nK k (fun _ c=>(nP 0,c)) vars c1:=⟨_,rfl⟩;rw[<-hq];refine Gz (rs:=[.cell 6 83]) zmx func123 ntmps123 rfl rfl rfl rfl rfl ?_;refine W1 ?_;refine bD rfl (eB hB c (1+l) j _ 13 (by rw[aW];exact hk) gA gA) ?_;rw[<-hc1];have d0:decide (((0:Nat):Int)<=0)=true:=rfl;refine Mj ?_;refine W3 ?_;rw[<-hkd] at hy hz ⊢;have d1:k<3:=hy;have n3:decide (k=3)=false:=decide_eq_false gA;have n4:decide (k=4)=false:=decide_eq_false gA;have n5:decide (k=5)=false:=decide_eq_false gA;have n6:decide (k=6)=false:=decide_eq_false gA;have n7:decide (k=7)=false:=decide_eq_false gA;have n8:decide (k=8)=false:=decide_eq_false gA;have n9:decide (k=9)=false:=decide_eq_false gA;have n10:decide (k=10)=false:=decide_eq_false gA;have n11:decide (k=11)=false:=decide_eq_false gA;have n12:decide (k=12)=false:=decide_eq_false gA;refine S0n (fun hb h=>?_) fun hb h=>?_
  ·subst h;simp only[nK,reduceIte] at hq;refine bD rfl (eB hB c1 (1+l) j _ 2 gO gA gA) ?_;refine YV ?_;rw[hq];refine⟨rfl,[_,_,_,_,_,_,_],_,_,rfl,rfl,.inr ⟨rfl,fun e he=>by cases he⟩,.inr ⟨rfl,fun e he=>by cases he⟩⟩
  have e1:=h;refine S0n (fun hb h=>?_) fun hb h=>?_
  ·subst h;refine S0 (fun hb h=>?_) fun hb h=>?_
   ·have hl:0<vars.length:=gA
    simp only[nK,reduceIte,Int.reduceEq,false_or,or_false,or_self,false_and,true_and,if_pos hl] at hq;refine dX [true] rfl (gB hB c1 (1+l) j _ vars gO gA gA) ?_;refine YV ?_;refine bn (yD (cK vars c1).1) ?_;refine YV ?_;rw[hq];refine⟨rfl,[_,_,_,_,_,_,_],_,_,rfl,rfl,.inr ⟨rfl,fun e he=>by cases he⟩,.inr ⟨rfl,fun e he=>by cases he⟩⟩
   ·have hl:¬0<vars.length:=gA
    simp only[nK,reduceIte,Int.reduceEq,false_or,or_false,or_self,false_and,true_and,if_neg hl] at hq;have hx2:=iF (n:=20) c1 gA;refine bD rfl (eB hB c1 (1+l) j _ 20 gO gA gA) ?_;refine YV ?_;refine W3 ?_;refine bn (uM ((aY 20 c1).1-5)) ?_;refine YV ?_;rw[hq];refine⟨rfl,[_,_,_,_,_,_,_],_,_,rfl,rfl,.inr ⟨rfl,fun e he=>by cases he⟩,.inr ⟨rfl,fun e he=>by cases he⟩⟩
  have e2:=h
  have e3:¬k=3:=gA
  have e4:¬k=4:=gA
  have e5:¬k=5:=gA
  have e6:¬k=6:=gA
  have e7:¬k=7:=gA
  have e8:¬k=8:=gA
  have e9:¬k=9:=gA
  have e10:¬k=10:=gA
  have e11:¬k=11:=gA
  have e12:¬k=12:=gA
  simp only[nK,if_neg e1,e2,e3,false_or,or_self,false_and,reduceIte,if_neg e4,if_neg e5,if_neg e6,if_neg e7,if_neg e8,if_neg e9,if_neg e10,if_neg e11,if_neg e12] at hq;have hx2:=iF (n:=20) c1 gA;refine bD rfl (eB hB c1 (1+l) j _ 20 gO gA gA) ?_;refine YV ?_;refine W3 ?_;refine bn (uM ((aY 20 c1).1-5)) ?_;refine YV ?_;rw[hq];refine⟨rfl,[_,_,_,_,_,_,_],_,_,rfl,rfl,.inr ⟨rfl,fun e he=>by cases he⟩,.inr ⟨rfl,fun e he=>by cases he⟩⟩
 |succ n ih=>
  intro vars c l j S hv hk;have g:∀x:Ab.Obj,bC (bA S (l,j) x) (l,j)=some x:=fun x=>dA _ _ _ _ hk;have hx:=iF (n:=13) c gA;obtain⟨k,hkd⟩:∃k,k=(aY 13 c).1:=⟨_,rfl⟩;obtain⟨c1,hc1⟩:∃c1,c1=(aY 13 c).2:=⟨_,rfl⟩;have ih1:=fun vars c l j S hv hk=>xI (ih vars c l j S hv hk);rw[iX,<-hkd,<-hc1];obtain⟨q,hq⟩:∃q,q=nK k (iX n) vars c1:=⟨_,rfl⟩;rw[<-hq];refine Gz (rs:=[.cell 6 83]) zmx func123 ntmps123 rfl rfl rfl rfl rfl ?_;refine W1 ?_;refine bD rfl (eB hB c (1+l) j _ 13 (by rw[aW];exact hk) gA gA) ?_;rw[<-hkd,<-hc1];have d0:decide (((n+1:Nat):Int)<=0)=false:=decide_eq_false gA
  have d1:((n+1:Nat):Int)-1=(n:Int):=gA
  refine Mj ?_
  have hm:∀y∈vars.map encS,y.length=1:=by
   intro y hy;obtain⟨z,_,rfl⟩:=cr.1 hy;rfl
  refine EO (fun hb h=>?_) fun hb h=>?_
  ·subst h;simp only[nK,reduceIte] at hq;refine bD rfl (eB hB c1 (1+l) j _ 2 gO gA gA) ?_;refine nL ?_;rw[hq];refine⟨rfl,[_,_,_,_,_,_,_],_,_,rfl,rfl,.inr ⟨rfl,fun e he=>by cases he⟩,.inr ⟨rfl,fun e he=>by cases he⟩⟩
  have e1:=h;refine EO (fun hb h=>?_) fun hb h=>?_
  ·subst h;refine EO (fun hb h=>?_) fun hb h=>?_
   ·have hl:0<vars.length:=gA
    simp only[nK,reduceIte,Int.reduceEq,false_or,or_false,or_self,false_and,true_and,if_pos hl] at hq;refine dX [true] rfl (gB hB c1 (1+l) j _ vars gO gA gA) ?_;refine nL ?_;refine bn (yD (cK vars c1).1) ?_;refine nL ?_;rw[hq];refine⟨rfl,[_,_,_,_,_,_,_],_,_,rfl,rfl,.inr ⟨rfl,fun e he=>by cases he⟩,.inr ⟨rfl,fun e he=>by cases he⟩⟩
   ·have hl:¬0<vars.length:=gA
    simp only[nK,reduceIte,Int.reduceEq,false_or,or_false,or_self,false_and,true_and,if_neg hl] at hq;have hx2:=iF (n:=20) c1 gA;refine bD rfl (eB hB c1 (1+l) j _ 20 gO gA gA) ?_;refine nL ?_;refine W3 ?_;refine bn (uM ((aY 20 c1).1-5)) ?_;refine nL ?_;rw[hq];refine⟨rfl,[_,_,_,_,_,_,_],_,_,rfl,rfl,.inr ⟨rfl,fun e he=>by cases he⟩,.inr ⟨rfl,fun e he=>by cases he⟩⟩
  have e2:=h;refine EO (fun hb h=>?_) fun hb h=>?_
  ·subst h;refine EO (fun hb h=>?_) fun hb h=>?_
   ·have hl:0<vars.length:=gA
    simp only[nK,reduceIte,Int.reduceEq,false_or,or_false,or_self,false_and,true_and,if_pos hl] at hq;refine dX [true] rfl (gB hB c1 (1+l) j _ vars gO gA gA) ?_;refine nL ?_;refine bn (yD (cK vars c1).1) ?_;refine nL ?_;rw[hq];refine⟨rfl,[_,_,_,_,_,_,_],_,_,rfl,rfl,.inr ⟨rfl,fun e he=>by cases he⟩,.inr ⟨rfl,fun e he=>by cases he⟩⟩
   ·have hl:¬0<vars.length:=gA
    simp only[nK,reduceIte,Int.reduceEq,false_or,or_false,or_self,false_and,true_and,if_neg hl] at hq;have hx2:=iF (n:=20) c1 gA;refine bD rfl (eB hB c1 (1+l) j _ 20 gO gA gA) ?_;refine nL ?_;refine W3 ?_;refine bn (uM ((aY 20 c1).1-5)) ?_;refine nL ?_;rw[hq];refine⟨rfl,[_,_,_,_,_,_,_],_,_,rfl,rfl,.inr ⟨rfl,fun e he=>by cases he⟩,.inr ⟨rfl,fun e he=>by cases he⟩⟩
  have e3:=h;refine EO (fun hb h=>?_) fun hb h=>?_
  ·subst h;simp only[nK,reduceIte,Int.reduceEq,false_or,or_false,or_self,false_and] at hq;refine dX [true] rfl (gB hB c1 (1+l) j _ Ay gO gE gE) ?_;refine nL ?_;refine dX [true] rfl (ih1 vars (cK Ay c1).2 (1+l) j _ hH gO) ?_;refine nL ?_;refine W3 ?_;refine bD rfl (BG 4 (cK Ay c1).1 [(iX n vars (cK Ay c1).2).1] (by simp only[af,aw,au.aC,ak.aC,ba,bc]) gL (.inr rfl)) ?_;refine nL ?_;rw[hq];refine⟨rfl,[_,_,_,_,_,_,_],_,_,rfl,rfl,.inl ⟨1,?_,?_⟩,.inl ⟨2,?_,?_⟩⟩<;>simp only[sS,wL,wM,af,aw,au.aC,zi,ak.aC,encS,ba,bc]<;>rfl
  have e4:=h;refine EO (fun hb h=>?_) fun hb h=>?_
  ·subst h;simp only[nK,reduceIte,Int.reduceEq,false_or,or_false,or_self,false_and] at hq;refine dX [true] rfl (gB hB c1 (1+l) j _ Dm gO gE gE) ?_;refine nL ?_;refine dX [true] rfl (ih1 vars (cK Dm c1).2 (1+l) j _ hH gO) ?_;refine nL ?_;refine dX [true] rfl (ih1 vars (iX n vars (cK Dm c1).2).2 (1+l) j _ hH gO) ?_;refine nL ?_;refine W3 ?_;rw[hq];refine⟨rfl,[_,_,_,_,_,_,_],_,_,rfl,rfl,.inr ⟨?_,GH _⟩,.inr ⟨rfl,fun e he=>by cases he⟩⟩<;>simp only[sS,wL,wM,af,aw,au.aC,zi,ak.aC,encS,ba,bc]<;>rfl
  have e5:=h;refine EO (fun hb h=>?_) fun hb h=>?_
  ·subst h;simp only[nK,reduceIte,Int.reduceEq,false_or,or_false,or_self,false_and] at hq;refine dX [true] rfl (ih1 vars c1 (1+l) j _ hH gO) ?_;refine nL ?_;refine dX [true] rfl (ih1 vars (iX n vars c1).2 (1+l) j _ hH gO) ?_;refine nL ?_;refine W3 ?_;refine bD rfl (BG 6 [99,111,110,115] [(iX n vars c1).1,(iX n vars (iX n vars c1).2).1] (by simp only[af,aw,au.aC,ak.aC,ba,bc]) gL (.inr rfl)) ?_;refine nL ?_;rw[hq];refine⟨rfl,[_,_,_,_,_,_,_],_,_,rfl,rfl,.inl ⟨1,?_,?_⟩,.inl ⟨2,?_,?_⟩⟩<;>simp only[sS,wL,wM,af,aw,au.aC,zi,ak.aC,encS,ba,bc]<;>rfl
  have e6:=h;refine EO (fun hb h=>?_) fun hb h=>?_
  ·subst h;simp only[nK,reduceIte,Int.reduceEq,false_or,or_false,or_self,false_and] at hq;refine dX [true] rfl (ih1 vars c1 (1+l) j _ hH gO) ?_;refine nL ?_;refine dX [true] rfl (ih1 vars (iX n vars c1).2 (1+l) j _ hH gO) ?_;refine nL ?_;have ih2:=fun c l j S hk=>ih1 (vars++[[104],[116]]) c l j S (by simp only[ae,aa,al];omega) hk;simp only[bw,af,aw,encS] at ih2;refine dX [true] rfl (ih2 (iX n vars (iX n vars c1).2).2 (1+l) j _ gO) ?_;refine nL ?_;refine W3 ?_;rw[hq];refine⟨rfl,[_,_,_,_,_,_,_],_,_,rfl,rfl,.inr ⟨?_,GH _⟩,.inr ⟨?_,alC _⟩⟩<;>simp only[sS,wL,wM,af,aw,au.aC,zi,ak.aC,encS,ba,bc]<;>rfl
  have e7:=h;refine EO (fun hb h=>?_) fun hb h=>?_
  ·subst h;simp only[nK,reduceIte,Int.reduceEq,false_or,or_false,or_self,false_and] at hq;refine dX [true] rfl (ih1 vars c1 (1+l) j _ hH gO) ?_;refine nL ?_;refine⟨hm,⟨_,rfl,rfl⟩,fun y hy=>absurd hy fc,gA,gL,⟨_,rfl,rfl⟩,gA,?_⟩;have ih2:=fun c l j S hk=>ih1 (vars++[[121]]) c l j S (by simp only[ae,aa,al];omega) hk;simp only[bw,af,aw,encS] at ih2;refine dX [true] rfl (ih2 (iX n vars c1).2 (1+l) j _ gO) ?_;refine nL ?_;refine W3 ?_;refine bD rfl (BG 8 [121] [(iX n vars c1).1,(iX n (vars++[[121]]) (iX n vars c1).2).1] (by simp only[af,aw,au.aC,ak.aC,ba,bc]) gL (.inr rfl)) ?_;refine nL ?_;rw[hq];refine⟨rfl,[_,_,_,_,_,_,_],_,_,rfl,rfl,.inl ⟨2,?_,?_⟩,.inl ⟨3,?_,?_⟩⟩<;>simp only[sS,wL,wM,af,aw,au.aC,zi,ak.aC,encS,ba,bc]<;>rfl
  have e8:=h;refine EO (fun hb h=>?_) fun hb h=>?_
  ·subst h;simp only[nK,reduceIte,Int.reduceEq,false_or,or_false,or_self,false_and] at hq;refine dX [true] rfl (ih1 vars c1 (1+l) j _ hH gO) ?_;refine nL ?_;refine dX [true] rfl (ih1 vars (iX n vars c1).2 (1+l) j _ hH gO) ?_;refine nL ?_;refine dX [true] rfl (ih1 vars (iX n vars (iX n vars c1).2).2 (1+l) j _ hH gO) ?_;refine nL ?_;refine W3 ?_;refine bD rfl (BG 9 [] [(iX n vars c1).1,(iX n vars (iX n vars c1).2).1,(iX n vars (iX n vars (iX n vars c1).2).2).1] (by simp only[af,aw,au.aC,ak.aC,ba,bc]) gL (.inr rfl)) ?_;refine nL ?_;rw[hq];refine⟨rfl,[_,_,_,_,_,_,_],_,_,rfl,rfl,.inl ⟨1,?_,?_⟩,.inl ⟨2,?_,?_⟩⟩<;>simp only[sS,wL,wM,af,aw,au.aC,zi,ak.aC,encS,ba,bc]<;>rfl
  have e9:=h;refine EO (fun hb h=>?_) fun hb h=>?_
  ·subst h;simp only[nK,reduceIte,Int.reduceEq,false_or,or_false,or_self,false_and] at hq;refine dX [true] rfl (gB hB c1 (1+l) j _ zh gO gE gE) ?_;refine nL ?_;refine dX [true] rfl (ih1 vars (cK zh c1).2 (1+l) j _ hH gO) ?_;refine nL ?_;refine dX [true] rfl (ih1 vars (iX n vars (cK zh c1).2).2 (1+l) j _ hH gO) ?_;refine nL ?_;refine W3 ?_;refine bD rfl (BG 10 (cK zh c1).1 [(iX n vars (cK zh c1).2).1,(iX n vars (iX n vars (cK zh c1).2).2).1] (by simp only[af,aw,au.aC,ak.aC,ba,bc]) gL (.inr rfl)) ?_;refine nL ?_;rw[hq];refine⟨rfl,[_,_,_,_,_,_,_],_,_,rfl,rfl,.inl ⟨1,?_,?_⟩,.inl ⟨2,?_,?_⟩⟩<;>simp only[sS,wL,wM,af,aw,au.aC,zi,ak.aC,encS,ba,bc]<;>rfl
  have e10:=h;refine EO (fun hb h=>?_) fun hb h=>?_
  ·subst h;simp only[nK,reduceIte,Int.reduceEq,false_or,or_false,or_self,false_and] at hq;refine dX [true] rfl (ih1 vars c1 (1+l) j _ hH gO) ?_;refine nL ?_;refine W3 ?_;rw[hq];refine⟨rfl,[_,_,_,_,_,_,_],_,_,rfl,rfl,.inr ⟨?_,GH _⟩,.inr ⟨rfl,fun e he=>by cases he⟩⟩<;>simp only[sS,wL,wM,af,aw,au.aC,zi,ak.aC,encS,ba,bc]<;>rfl
  have e11:=h;refine EO (fun hb h=>?_) fun hb h=>?_
  ·subst h;simp only[nK,reduceIte,Int.reduceEq,false_or,or_false,or_self,false_and] at hq;refine dX [true] rfl (xH (KF hB (vars:=aL) gE 1 c1 (1+l) j _ gO gA)) ?_;refine nL ?_;refine dX [true] rfl (ih1 vars (qp aL 1 c1).2 (1+l) j _ hH gO) ?_;refine nL ?_;refine W3 ?_;rw[hq];refine⟨rfl,[_,_,_,_,_,_,_],_,_,rfl,rfl,.inr ⟨?_,GH _⟩,.inr ⟨rfl,fun e he=>by cases he⟩⟩<;>simp only[sS,wL,wM,af,aw,au.aC,zi,ak.aC,encS,ba,bc]<;>rfl
  have e12:=h;simp only[nK,if_neg e1,e2,e3,false_or,or_self,false_and,reduceIte,if_neg e4,if_neg e5,if_neg e6,if_neg e7,if_neg e8,if_neg e9,if_neg e10,if_neg e11,if_neg e12] at hq;have hx2:=iF (n:=20) c1 gA;refine bD rfl (eB hB c1 (1+l) j _ 20 gO gA gA) ?_;refine nL ?_;refine W3 ?_;refine bn (uM ((aY 20 c1).1-5)) ?_;refine nL ?_;rw[hq];refine⟨rfl,[_,_,_,_,_,_,_],_,_,rfl,rfl,.inr ⟨rfl,fun e he=>by cases he⟩,.inr ⟨rfl,fun e he=>by cases he⟩⟩
end Go.Ab