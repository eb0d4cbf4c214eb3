/-
  SEVERAL TEXTS IN ONE (merged by program): contracts and models, each with its own heading.
-/
import Derived.Test.YtlaaknnkeidlbaaGreatDoorPartDedbN
open Go.Proofs Go.Proofs.Tryz
set_option linter.unusedSimpArgs false
set_option linter.unusedVariables false
set_option maxRecDepth 4000
namespace Go.Ab
def FB(S:Store)(os:List Obj):Store:=match S with
 |fr::Ω=>(fr++os)::Ω
 |[]=>[]
def uO(S:Store):Nat:=match S with
 |fr::_=>fr.length
 |[]=>0
def wS(S:Store):Bool:=match S with
 |_::_=>true
 |[]=>false
theorem iM{fr:List Obj}{Ω:Store}{os:List Obj}:FB (fr::Ω) os=(fr++os)::Ω:=rfl
theorem fJ{fr:List Obj}{Ω:Store}:uO (fr::Ω)=fr.length:=rfl
theorem Si{fr:List Obj}{Ω:Store}:wS (fr::Ω)=true:=rfl
theorem V3{k:Key}{x:Obj}:∀{S:Store},wS (aR S k x)=wS S
 |[]=>rfl
 |fr::S=>by
  obtain⟨l,j⟩:=k;cases l<;>rfl
theorem acC{k:Key}{x:Obj}:∀{S:Store},uO (aR S k x)=uO S
 |[]=>rfl
 |fr::S=>by
  obtain⟨l,j⟩:=k;cases l
  ·show(fr.set j x).length=fr.length
   simp
  ·rfl
def je(P:Program)(f:FuncId)(args:List V)(S:Store)(raw:V->List Obj->Store->Prop):Prop:=
 Known P f/\∀w σ β vs,cZ w σ S β->jX w σ S β args vs->
  Calls P f vs.toArray w fun e w'=>∃v r own S1 bo β1 σ',e=.returned v/\cZ w' σ' (own::S1) (bo::β1)/\Keep S β S1 β1/\Step S β σ w (own::S1) (bo::β1) σ' w'/\bJ w' σ' (own::S1) (bo::β1) r v/\raw r own S1
def GU(P:Program)(rs:List ResultVar)(raw:V->List Obj->Store->Prop)(e:Exit)(s:St):Prop:=
 match e with
 | .normal| .ret=>(lY P rs s).1/\match s.st with
   |own::S1=>raw (lY P rs s).2 own S1
   |[]=>False
 |_=>False
section
variable {P:Program} {N:Nat} {s:St} {S:Store}
theorem zV{f:FuncId}{fn:Func}{c:Code}{args:List V}{raw:V->List Obj->Store->Prop}(hf:P.funcs[f]? =some fn)(hb:fn.body=some c)(hn:(fn.name== "runtime.NumGoroutine")=false)
 (hl:args.length<=fn.ntmps)(h:AW P fn.ntmps c (GU P fn.results.toList raw) ⟨jR (args.map (V.up 1)) 0,[]::S⟩):je P f args S raw:=by
 refine⟨⟨fn,hf,hn,by simp[hb]⟩,fun w σ β vs hS hargs=> ?_⟩;refine calls_of_wp hf hb ?_;have hlen:vs.length=args.length:=hargs.1.symm
 have Ov:iI fn.ntmps ⟨jR (args.map (V.up 1)) 0,[]::S⟩ {tmps:=vs.toArray++Array.replicate (fn.ntmps-vs.toArray.size) undef,defers:=[]} w σ ([]::β):=by
  refine⟨by simp;omega,rfl,hS.up1,fun t=> ?_⟩;show bJ w σ ([]::S) ([]::β) (look (jR (args.map (V.up 1)) 0) t) _;rw[xV,if_pos (ba _),Nat.sub_zero,be]
  cases ha:args[t]? with
  |none=>exact trivial
  |some x=>
   obtain⟨v,hv,hr⟩:=hargs.2 t x ha;have ht:=(ae.1 hv).1
   have:(vs.toArray++Array.replicate (fn.ntmps-vs.toArray.size) undef).getD t undef=v:=by
    rw[dq,cC (by simpa using ht)];simp[hv]
   rw[this];exact Kw (S:=[]::S) (β:=[]::β) 1 hr
 refine wp_mono (h _ w σ ([]::β) Ov) ?_;rintro e a' w' ⟨s',σ',β',hR,hst,hkp,hq⟩
 have main:((lY P fn.results.toList s').1/\match s'.st with
  |own::S1=>raw (lY P fn.results.toList s').2 own S1
  |[]=>False)->
   a'.defers=[]/\∃v,(results fn a'.tmps).run P w'=.ok v w'/\∃v1 r own S1 bo β1 σ',Ending.returned v=Ending.returned v1/\cZ w' σ' (own::S1) (bo::β1)/\Keep S β S1 β1/\Step S β σ w (own::S1) (bo::β1) σ' w'/\bJ w' σ' (own::S1) (bo::β1) r v1/\raw r own S1:=by
  rintro⟨q1,q2⟩;obtain⟨v,hv,hrep⟩:=Dp (fn:=fn) hR q1;obtain⟨tm,st⟩:=s';simp only at q2;split at q2
  ·rename_i own S1;obtain⟨bo,β1,rfl,hlo⟩:=frames hR;have hst':Step ([]::S) ([]::β) σ w (own::S1) (bo::β1) σ' w':=hst;exact⟨hR.defers,v,hv,v,_,own,S1,bo,β1,σ',rfl,hR.S,hkp,⟨hst'.size,hst'.os,hst'.output,fun b hb ho=>hst'.far b hb (fun x=>ho (yC x)),hst'.near,fun b hb=>(hst'.own b hb).imp yC id⟩,hrep,q2⟩
  ·exact q2.elim
 cases e with
 |normal=>exact main hq
 |ret=>exact main hq
 |_=>exact hq.elim
def PZ(P:Program)(rs:List ResultVar)(raw:V->List Obj->Store->Prop)(s:St)(r:R):Prop:=r.1/\match s.st with
 |own::S1=>raw r.2 own S1
 |[]=>False
@[congr] theorem aiE {rs:List ResultVar} {raw:V->List Obj->Store->Prop} {s s':St} {r r':R} (h1:s=s') (h2:r=r'):PZ P rs raw s r=PZ P rs raw s' r':=by rw[h1,h2]
theorem acD{rs:List ResultVar}{raw:V->List Obj->Store->Prop}{tm:List (Nat×V)}{S:Store}:GU P rs raw .ret ⟨tm,S⟩=PZ P rs raw ⟨tm,S⟩ (lY P rs ⟨tm,S⟩):=rfl
theorem Sj{rs:List ResultVar}{raw:V->List Obj->Store->Prop}{tm:List (Nat×V)}{S:Store}:GU P rs raw .normal ⟨tm,S⟩=PZ P rs raw ⟨tm,S⟩ (lY P rs ⟨tm,S⟩):=rfl
theorem afc{rs:List ResultVar}{raw:V->List Obj->Store->Prop}{tm:List (Nat×V)}{own:List Obj}{S1:Store}{p:Prop}{v:V}:PZ P rs raw ⟨tm,own::S1⟩ (p,v)=(p/\raw v own S1):=rfl
theorem zo{f:FuncId}{fn:Func}{c:Code}{args:List V}{raw:V->List Obj->Store->Prop}{rs:List ResultVar}(dZ:P.follows .mixedOrders=true)(hf:P.funcs[f]? =some fn)(hN:fn.ntmps=N)
 (hb:fn.body=some c) (hn:(fn.name== "runtime.NumGoroutine")=false) (hr:fn.results.toList=rs) (hl:Nat.ble args.length N=true) (hok:codeOk N c=true)
 (h:CW P N c (GU P rs raw) ⟨jR (args.map (V.up 1)) 0,[]::S⟩):je P f args S raw:=by
 subst hN;subst hr;exact zV hf hb hn (cX hl) (iV dZ c _ _ hok h)
theorem afd(T:List TypeId){f:FuncId}{fn:Func}{c:Code}{args:List V}{raw:V->List Obj->Store->Prop}{rs:List ResultVar}(dZ:P.follows .mixedOrders=true)(hf:P.funcs[f]? =some fn)(hN:fn.ntmps=N)
 (hb:fn.body=some c) (hn:(fn.name== "runtime.NumGoroutine")=false) (hr:fn.results.toList=rs) (hl:Nat.ble args.length N=true) (hok:lJ T N c=true)
 (h:kL P N T c (GU P rs raw) ⟨jR (args.map (V.up 1)) 0,[]::S⟩):je P f args S raw:=by
 subst hN;subst hr;exact zV hf hb hn (cX hl) (lu dZ c _ _ hok h)
theorem je.mono{f:FuncId}{args:List V}{raw raw':V->List Obj->Store->Prop}(h:je P f args S raw)(hi:∀r own S1,raw r own S1->raw' r own S1):je P f args S raw':=
 ⟨h.1,fun w σ β vs hS hv=>(h.2 w σ β vs hS hv).mono fun e w' ⟨v,r,own,S1,bo,β1,σ',q1,q2,q3,q4,q5,q6⟩=>⟨v,r,own,S1,bo,β1,σ',q1,q2,q3,q4,q5,hi _ _ _ q6⟩⟩
end
def Eh(own:List Obj)(x:C)(z:Nat)(es:List (List D)):Prop:=(∃m,own[m]? =some (.tok z es)/\x=.bM (0,m) es)\/(x=.bB es/\∀e∈es,e.length=z)
section
variable {w:World} {σ:Nat->Nat} {own fr:List Obj} {Ω:Store} {bo bf:List Value} {bΩ:Hs}
theorem tY{S1:Store}{β1:Hs}{x:C}{z:Nat}{es:List (List D)}{v:Value}(h:Eh own x z es)(hr:dS w σ (own::S1) (bo::β1) x v):bn w σ (.sl es) v:=by
 rcases h with⟨m,h1,rfl⟩|⟨rfl,_⟩
 ·exact hr.1
 ·exact hr.1
theorem GV{S1:Store}{β1:Hs}{x:C}{z:Nat}{es:List (List D)}{v:Value}(hS:cZ w σ (own::S1) (bo::β1))(h:Eh own x z es)(hr:dS w σ (own::S1) (bo::β1) x v):
 (∀S' β',eT w σ S' β' (.tok z es) v)/\∀b,owns (.tok z es) v b->∃m,own[m]? =some (.tok z es)/\x=.bM (0,m) es/\bo[m]? =some v:=by
 rcases h with⟨m,h1,rfl⟩|⟨rfl,h2⟩
 ·obtain⟨hd,o,ho,hl⟩:=hr;rw[aD,h1] at ho;cases ho;have hb:=(hl _ _ (.inl rfl)).2 rfl;obtain⟨hv,e1,e2⟩:=hS.obj (0,m) _ (by rw[aD];exact h1);rw[hb] at e1;cases e1;rw[aD] at hb;exact⟨fun _ _=>e2,fun b _=>⟨m,h1,rfl,hb⟩⟩
 ·obtain⟨hd,a,n,rfl⟩:=hr
  have hn:n=es.length:=by cases hd<;>rfl
  subst hn;refine⟨fun _ _=>⟨hd,h2,a,es.length,rfl,ax _,.inl rfl⟩,fun b hb=> ?_⟩
  cases a with
  |none=>cases hb
  |some a=>simp[owns,blk] at hb
end
def wT(cs:List C):Bool:=cs.all fun c=>match c with
 | .d _=>true
 |_=>false
theorem JB{w:World}{σ:Nat->Nat}{S S':Store}{β β':Hs}{c:C}{v:Value}(h:(match c with
 | .d _=>true
 |_=>false)=true) (hr:dS w σ S β c v):dS w σ S' β' c v:=by
 cases c<;>first|exact hr|(cases h;done)
theorem Au{w:World}{σ:Nat->Nat}{S S':Store}{β β':Hs}{pre post:List C}{x x':C}{a:List Value}(h1:wT pre=true)(h2:wT post=true)(hr:dF w σ S β (pre++x::post) a)
 (hx:∀v,a[pre.length]? =some v->dS w σ S β x v->dS w σ S' β' x' v):dF w σ S' β' (pre++x'::post) a:=by
 refine⟨by simpa using hr.1,fun j y hy=> ?_⟩;rcases em j pre.length with hj|hj|hj
 ·rw[an hj] at hy;obtain⟨v,e1,e2,e3⟩:=hr.2 j y (by rw[an hj];exact hy);exact⟨v,e1,JB (aS.1 h1 y (cM hy)) e2,e3⟩
 ·subst hj;rw[ac (ax _),cq,eJ] at hy;cases hy;obtain⟨v,e1,e2,e3⟩:=hr.2 pre.length x (by rw[ac (ax _),cq];rfl);exact⟨v,e1,hx v e1 e2,e3⟩
 ·rw[ac (by omega),show j-pre.length=(j-pre.length-1)+1 by omega,dt] at hy;obtain⟨v,e1,e2,e3⟩:=hr.2 j y (by rw[ac (by omega),show j-pre.length=(j-pre.length-1)+1 by omega,dt];exact hy);exact⟨v,e1,JB (aS.1 h2 y (cM hy)) e2,e3⟩
section
variable {P:Program} {S S':Store} {f:FuncId} {args:List V}
theorem je.plain{pre post:List C}{z:Nat}{es:List (List D)}(h1:wT pre=true)(h2:wT post=true)(h:je P f args S fun r own S1=>S1=S'/\∃x,r=.agg (pre++x::post)/\Eh own x z es):
 bL P f args S fun r S1=>r=.agg (pre++ .d (.sl es)::post)/\S1=S':=by
 refine⟨h.1,fun w σ β vs hS hv=>(h.2 w σ β vs hS hv).mono fun e w' ⟨v,r,own,S1,bo,β1,σ',q1,q2,q3,q4,q5,q6,x,q7,q8⟩=> ?_⟩;subst q6 q7;obtain⟨a,rfl,hc⟩:=q5;exact⟨_,.agg (pre++ .d (.sl es)::post),S1,σ',β1,q1,q2.E5,q3,⟨q4.size,q4.os,q4.output,q4.far,q4.near,fun b hb=>q4.own b (sZ hb)⟩,⟨a,rfl,Au h1 h2 hc fun v e1 e2=>tY q8 e2⟩,rfl,rfl⟩
theorem je.push{pre post:List C}{z:Nat}{es:List (List D)}(h1:wT pre=true)(h2:wT post=true)(ht:wS S'=true)(h:je P f args S fun r own S1=>S1=S'/\∃x,r=.agg (pre++x::post)/\Eh own x z es):
 bL P f args S fun r S1=>r=.agg (pre++ .bM (0,uO S') es::post)/\S1=FB S' [.tok z es]:=by
 refine⟨h.1,fun w σ β vs hS hv=>(h.2 w σ β vs hS hv).mono fun e w' ⟨v,r,own,S1,bo,β1,σ',q1,q2,q3,q4,q5,q6,x,q7,q8⟩=> ?_⟩;subst q6 q7;obtain⟨a,rfl,hc⟩:=q5;obtain⟨u,e1,e2,e3⟩:=hc.2 pre.length x (by rw[ac (ax _),cq];rfl);obtain⟨k1,k2⟩:=GV q2 q8 e2
 cases S1 with
 |nil=>cases ht
 |cons fr Ω=>
 have hd:=q2.E5
 obtain⟨bf,bΩ,rfl,hlen⟩:∃bf bΩ,β1=bf::bΩ/\bf.length=fr.length:=by
  cases β1 with
  |nil=>have:=hd.shape.1;simp at this
  |cons bf bΩ=>
   refine⟨bf,bΩ,rfl,?_⟩;obtain⟨gr,q1,q2⟩:=hd.shape.2 0 fr rfl;simp at q1;rw[q1];exact q2
 obtain⟨l1,l2,l3⟩:=hd.lay (o:=.tok z es) (h:=u) hlen (k1 _ _) fun b hb ⟨k,o,hh,f1,f2,f3⟩=>by
  obtain⟨m,g1,g2,g3⟩:=k2 b hb;have:=q2.apart (0,m) (k.1+1,k.2) _ o u hh b (by rw[aD];exact g1) (by rw[aD];exact g3) hb (by rw[aV];exact f1) (by rw[aV];exact f2) f3;cases this
 refine⟨_,.agg (pre++ .bM (0,uO (fr::Ω)) es::post),_,σ',_,q1,l1,q3.trans l2,⟨q4.size,q4.os,q4.output,q4.far,q4.near,fun b hb=> ?_⟩,⟨a,rfl,Au h1 h2 hc fun v f1 f2=> ?_⟩,rfl,rfl⟩
 ·rcases l3 b hb with q|q
  ·exact q4.own b (sZ q)
  ·obtain⟨m,g1,g2,g3⟩:=k2 b q;exact q4.own b ⟨(0,m),_,u,by rw[aD];exact g1,by rw[aD];exact g3,q⟩
 ·rw[e1] at f1;cases f1;refine⟨tY q8 e2,_,by rw[fJ];exact bg _ _ _,fun aJ es' e=> ?_⟩;obtain⟨_,rfl⟩:=mK (lab:=none) e;exact⟨ax _,fun _=>by rw[fJ,<-hlen,bg]⟩
end
attribute [go_sem ↓] acD Sj
attribute [go_sem] afc iM fJ Si V3 acC
end Go.Ab
attribute [go_sem] Go.Ab.j3 Go.Ab.nP
namespace Go.Ab
def xB(x:Int):List D:=[.i .u8 x]
theorem P5(a:Int):0<=Ah .i64 a 255/\Ah .i64 a 255<=255:=by
 have h:(BitVec.ofInt IntKind.i64.bits a &&& BitVec.ofInt IntKind.i64.bits 255).toNat<=255:=by
  rw[BitVec.toNat_and];refine cp Nat.and_le_right ?_;decide
 unfold Ah;rw[IntWalk.i64_in _ (by omega)];omega
structure Bytes(bs:List Int):Prop where
 len:bs.length<=1048576
 rng:∀x∈bs,0<=x/\x<=255
structure Cu(bs:List Int) where
 i:Int
 h:Int
 lo:0<=i
 hi:i<=bs.length
def cur{bs:List Int}(c:Cu bs):List C:=[.d (.sl (bs.map xB)),.d (.i .i64 c.i),.d (.i .i64 c.h)]
def hN(h:Int):Int:=IntKind.i64.wrap (IntKind.i64.wrap (h*6364136223846793005)+1442695040888963407)
def FC(h:Int):Int:=Ah .i64 (NH .i64 (Gn .i64 (hN h) 33) (Gn .i64 (hN h) 45)) 255
def eZ{bs:List Int}(c:Cu bs):Int×Cu bs:=
 if h:c.i<bs.length then(Ah .i64 (FC c.h+bs.getD c.i.toNat 0) 255,⟨c.i+1,hN c.h,by have:=c.lo;omega,by omega⟩) else(FC c.h,⟨c.i,hN c.h,c.lo,c.hi⟩)
theorem mF{bs:List Int}(c:Cu bs):0<=(eZ c).1/\(eZ c).1<=255:=by
 unfold eZ;split
 ·exact P5 _
 ·exact P5 _
def aU{bs:List Int}(n:Int)(c:Cu bs):Int×Cu bs:=((eZ c).1.tmod n,(eZ c).2)
theorem fG{bs:List Int}{n:Int}(c:Cu bs)(h:1<=n):0<=(aU n c).1/\(aU n c).1<n:=
 ⟨Int.tmod_nonneg _ (mF c).1,Int.tmod_lt_of_pos _ (by omega)⟩
def fZ{bs:List Int}(n:Int)(c:Cu bs):Bool×Cu bs:=(decide ((aU n c).1=0),(aU n c).2)
def bN{bs:List Int}(xs:List (List UInt8))(c:Cu bs):List UInt8×Cu bs:=(xs.getD (aU xs.length c).1.toNat [],(aU xs.length c).2)
theorem Ei{bs:List Int}{xs:List (List UInt8)}(c:Cu bs)(h:1<=xs.length):(bN xs c).1∈xs:=by
 have:=fG (n:=xs.length) c (by omega);unfold bN
 have hi:(aU (xs.length:Int) c).1.toNat<xs.length:=by omega
 simp only[List.getD,al hi,cN];exact ap hi
theorem wU{bs:List Int}(hB:Bytes bs)(c:Cu bs)(l j:Nat)(S:Store)(hk:aN S (l,j)=some (.box (cur c))):
 bL prog 88 [.c (.ptr (l,j) 0)] S (fun r S'=>r=.c (.d (.i .i64 (eZ c).1))/\S'=aR S (l,j) (.box (cur (eZ c).2))):=by
 have h0:0<=FC c.h/\FC c.h<=255:=P5 _;have hl:=hB.len;have g:∀x:Ab.Obj,aN (aR S (l,j) x) (l,j)=some x:=fun x=>bX _ _ _ _ hk;obtain⟨i,h,lo,hi⟩:=c;simp only at h0;by_cases hlt:i<bs.length
 ·have hb:=hB.rng (bs[i.toNat]'(by omega)) (ap _);have h1:decide (i<(bs.length:Int))=true:=decide_eq_true hlt
  have e:bs.getD i.toNat 0=bs[i.toNat]'(by omega):=by simp[List.getD,(show i.toNat<bs.length by omega)]
  rw[eZ,dif_pos hlt];simp only[e]
  unfold FC hN at *
  refine zcx [.tmp 2] func88 ntmps88 ?_;simp -implicitDefEqProofs (disch:=omega) only[go_sem,hk,cur,g,h1,xB]
  (repeat(with_reducible refine And.intro ?_ ?_;focus first|omega|rfl|assumption|exact⟨_,rfl,rfl⟩|(simp;omega)|(simp;done)))
  all_goals first|exact⟨rfl,rfl⟩|rfl|omega
 ·have h1:decide (i<(bs.length:Int))=false:=decide_eq_false hlt;rw[eZ,dif_neg hlt]
  unfold FC hN at *
  refine zcx [.tmp 2] func88 ntmps88 ?_;simp -implicitDefEqProofs (disch:=omega) only[go_sem,hk,cur,g,h1,xB]
  first|done|exact⟨rfl,rfl⟩|rfl
theorem dX{bs:List Int}(hB:Bytes bs)(c:Cu bs)(l j:Nat)(S:Store)(n:Int)(hk:aN S (l,j)=some (.box (cur c)))(h1:1<=n)(h2:n<=256):
 bL prog 37 [.c (.ptr (l,j) 0),.c (.d (.i .i64 n))] S (fun r S'=>r=.c (.d (.i .i64 (aU n c).1))/\S'=aR S (l,j) (.box (cur (aU n c).2))):=by
 have hx:=mF c;have d1:decide (n<=0)=false:=decide_eq_false (by omega);have d2:decide (n<=256)=true:=decide_eq_true h2;refine zcx [.tmp 4] func37 ntmps37 ?_;simp -implicitDefEqProofs (disch:=omega) only[go_sem,d1,d2];refine aQ rfl (wU hB c (1+l) j ([]::S) (by rw[aX];exact hk)) ?_;simp -implicitDefEqProofs (disch:=omega) only[go_sem]
 (repeat(with_reducible refine And.intro ?_ ?_;focus first|omega|rfl|assumption|exact⟨_,rfl,rfl⟩|(simp;omega)|(simp;done)))
 first|done|exact⟨rfl,rfl⟩|rfl
theorem zW{bs:List Int}(hB:Bytes bs)(c:Cu bs)(l j:Nat)(S:Store)(n:Int)(hk:aN S (l,j)=some (.box (cur c)))(h1:1<=n)(h2:n<=256):
 bL prog 32 [.c (.ptr (l,j) 0),.c (.d (.i .i64 n))] S (fun r S'=>r=.c (.d (.b (fZ n c).1))/\S'=aR S (l,j) (.box (cur (fZ n c).2))):=by
 refine zcx [.tmp 4] func32 ntmps32 ?_;simp -implicitDefEqProofs (disch:=omega) only[go_sem];refine aQ rfl (dX hB c (1+l) j ([]::S) n (by rw[aX];exact hk) h1 h2) ?_;simp -implicitDefEqProofs (disch:=omega) only[go_sem]
 first|done|exact⟨rfl,rfl⟩|rfl
theorem gN{bs:List Int}(hB:Bytes bs)(c:Cu bs)(l j:Nat)(S:Store)(xs:List (List UInt8))(hk:aN S (l,j)=some (.box (cur c)))(h1:1<=xs.length)(h2:xs.length<=256):
 bL prog 76 [.c (.ptr (l,j) 0),.c (.d (.sl (xs.map encS)))] S (fun r S'=>r=.c (.d (.s (bN xs c).1))/\S'=aR S (l,j) (.box (cur (bN xs c).2))):=by
 have hx:=fG (n:=xs.length) c (by omega);refine zcx [.tmp 4] func76 ntmps76 ?_;simp -implicitDefEqProofs (disch:=omega) only[go_sem,encS];refine aQ rfl (dX hB c (1+l) j ([]::S) xs.length (by rw[aX];exact hk) (by omega) (by omega)) ?_
 have hi:(aU (xs.length:Int) c).1.toNat<xs.length:=by omega
 have e:(bN xs c).1=xs[(aU (xs.length:Int) c).1.toNat]:=by simp only[bN,List.getD,al hi,cN]
 simp -implicitDefEqProofs (disch:=omega) only[go_sem,encS]
 (repeat(with_reducible refine And.intro ?_ ?_;focus first|omega|rfl|assumption|exact⟨_,rfl,rfl⟩|(simp;omega)|(simp;done)))
 rw[e]
 first|done|exact⟨rfl,rfl⟩|rfl
def V4(s:List UInt8):au:=.mk 1 s []
def vF(s:List UInt8)(l:List au):au:=.mk 2 s l
def Cm:List (List UInt8):=[[105,110,116],[98,111,111,108],[117,110,105,116]]
def zX:List (List UInt8):=[[108,105,115,116],[108,105,115,116],[98,111,120]]
def p9{bs:List Int}(vars:List (List UInt8)):Nat->Cu bs->au×Cu bs
 |0,c=>if(aU 8 c).1<3/\0<vars.length then(V4 (bN vars (aU 8 c).2).1,(bN vars (aU 8 c).2).2)
  else(vF (bN Cm (aU 8 c).2).1 [],(bN Cm (aU 8 c).2).2)
 |n+1,c=>if(aU 8 c).1<3/\0<vars.length then(V4 (bN vars (aU 8 c).2).1,(bN vars (aU 8 c).2).2)
  else if(aU 8 c).1<5 then(vF (bN Cm (aU 8 c).2).1 [],(bN Cm (aU 8 c).2).2)
  else if(aU 8 c).1=5 then(vF [112,97,105,114] [(p9 vars n (aU 8 c).2).1,(p9 vars n (p9 vars n (aU 8 c).2).2).1],(p9 vars n (p9 vars n (aU 8 c).2).2).2)
  else(vF (bN zX (aU 8 c).2).1 [(p9 vars n (bN zX (aU 8 c).2).2).1],(p9 vars n (bN zX (aU 8 c).2).2).2)
def eG(l:List (List UInt8)):Prop:=∀s∈l,s.length<=8
theorem iY{bs:List Int}{xs:List (List UInt8)}(c:Cu bs)(h:eG xs):(bN xs c).1.length<=8:=by
 by_cases h1:1<=xs.length
 ·exact h _ (Ei c h1)
 ·have:xs=[]:=bh (by omega);subst this;simp[bN]
theorem JC:eG Cm:=by unfold eG;decide
theorem short_list:eG zX:=by unfold eG;decide
theorem Zp(s:List UInt8):(V4 s).sz=s.length:=by simp[V4,au.sz,au.aB,bG,D.sz,bC,au.fName,au.fArgs]
theorem Tz(s:List UInt8):(vF s []).sz=s.length:=by simp[vF,au.sz,au.aB,bG,D.sz,bC,au.fName,au.fArgs]
theorem afe(s:List UInt8)(t:au):(vF s [t]).sz=s.length+1+t.sz:=by
 have:=au.dz t;simp only[vF,au.sz,au.aB,bG,D.sz,bC,au.fName,au.fArgs,ag,az,aa,aq] at this ⊢;omega
theorem aff(s:List UInt8)(t u:au):(vF s [t,u]).sz=s.length+2+t.sz+u.sz:=by
 have h1:=au.dz t;have h2:=au.dz u;simp only[vF,au.sz,au.aB,bG,D.sz,bC,au.fName,au.fArgs,ag,az,aa,aq] at h1 h2 ⊢;omega
theorem Zq{bs:List Int}{vars:List (List UInt8)}(hv:eG vars):∀(n:Nat)(c:Cu bs),(p9 vars n c).1.sz+10<=18*2^n
 |0,c=>by
  rw[p9];split
  ·have:=iY (aU 8 c).2 hv;simp only[Zp];omega
  ·have:=iY (aU 8 c).2 JC;simp only[Tz];omega
 |n+1,c=>by
  have ih:=Zq hv n (bs:=bs)
  have hp:2^ (n+1)=2^n+2^n:=by rw[fi];omega
  have h2:=Nat.one_le_two_pow (n:=n);rw[p9];split
  ·have:=iY (aU 8 c).2 hv;simp only[Zp];omega
  split
  ·have:=iY (aU 8 c).2 JC;simp only[Tz];omega
  split
  ·have h3:=ih (aU 8 c).2;have h4:=ih (p9 vars n (aU 8 c).2).2;simp only[aff,aa,aq];omega
  ·have h3:=ih (bN zX (aU 8 c).2).2;have:=iY (aU 8 c).2 short_list;simp only[afe];omega
def tyP(t:au):List C:=[.d (.i .i64 t.aH),.d (.s t.fName)]
theorem Mg(t:au):wT (tyP t)=true:=rfl
def Nr(t:au)(S':Store)(r:V)(own:List Obj)(S1:Store):Prop:=S1=S'/\∃x,r=.agg (tyP t++x::[])/\Eh own x 3 (t.fArgs.map au.enc)
theorem acE(l:List au):∀y∈l.map au.enc,y.length=3:=by
 intro y hy;obtain⟨x,_,rfl⟩:=da.1 hy;rw[au.aB];rfl
theorem P6(s:List UInt8):aF prog 175 [.c (.d (.s s))] (.agg [.d (.i .i64 1),.d (.s s),.bB []]):=fun S=>by
 refine zcx [.cell 2 26] func175 ntmps175 ?_;simp -implicitDefEqProofs (disch:=omega) only[go_sem]
 first|done|exact⟨rfl,rfl⟩|rfl
theorem Zr(s:List UInt8)(l:List au){es:List (List D)}(he:es=l.map au.enc)(hl:l.length<=1048576){a:C}(ha:a=.d (.sl es)\/a=.bB es)(S:Store):je prog 176 [.c (.d (.s s)),.c a] S (Nr (vF s l) S):=by
 subst he;refine zo (rs:=[.cell 4 26]) zmx func176 ntmps176 rfl rfl rfl rfl rfl ?_;have hln:=acE l;rcases ha with rfl|rfl
 all_goals
  simp -implicitDefEqProofs (disch:=omega) only[go_sem];refine⟨hln,⟨_,rfl,rfl⟩,fun y hy=>absurd hy ep,by omega,rfl,_,rfl,.inl ⟨1,rfl,rfl⟩⟩
theorem Gc{f:FuncId}{args:List V}{S S':Store}{t:au}(h:je prog f args S (Nr t S')):bL prog f args S (fun r S1=>r=.agg [.d (.i .i64 t.aH),.d (.s t.fName),.d (.sl (t.fArgs.map au.enc))]/\S1=S'):=
 je.plain (Mg t) rfl h
theorem V5{f:FuncId}{args:List V}{S S':Store}{t:au}(ht:wS S'=true)(h:je prog f args S (Nr t S')):
 bL prog f args S (fun r S1=>r=.agg [.d (.i .i64 t.aH),.d (.s t.fName),.bM (0,uO S') (t.fArgs.map au.enc)]/\S1=FB S' [.tok 3 (t.fArgs.map au.enc)]):=
 je.push (Mg t) rfl ht h
theorem yt(s:List UInt8)(l:List au){es:List (List D)}(he:es=l.map au.enc)(hl:l.length<=1048576){a:C}(ha:a=.d (.sl es)\/a=.bB es){own:List Ab.Obj}{Ω:Store}:
 bL prog 176 [.c (.d (.s s)),.c a] (own::Ω) (fun r S1=>r=.agg [.d (.i .i64 2),.d (.s s),.bM (0,own.length) es]/\S1=(own++[.tok 3 es])::Ω):=by
 have:=V5 (S':=own::Ω) rfl (Zr s l he hl ha (own::Ω));rw[he];exact this
theorem P7{bs:List Int}{xs:List (List UInt8)}(c:Cu bs)(hi:(aU (xs.length:Int) c).1.toNat<xs.length):xs[(aU (xs.length:Int) c).1.toNat]=(bN xs c).1:=by
 simp only[bN,List.getD,al hi,cN]
theorem acF{bs:List Int}(hB:Bytes bs){vars:List (List UInt8)}(hv:vars.length<=256):∀(n:Nat)(c:Cu bs)(l j:Nat)(S:Store),aN S (l,j)=some (.box (cur c))->n<=1048576->
 je prog 87 [.c (.ptr (l,j) 0),.c (.d (.sl (vars.map encS))),.c (.d (.i .i64 n))] S (Nr (p9 vars n c).1 (aR S (l,j) (.box (cur (p9 vars n c).2)))):=by
 intro n
 induction n with
 |zero=>
  intro c l j S hk hn;have g:∀x:Ab.Obj,aN (aR S (l,j) x) (l,j)=some x:=fun x=>bX _ _ _ _ hk;obtain⟨k,hkd⟩:∃k,k=(aU 8 c).1:=⟨_,rfl⟩;obtain⟨c1,hc1⟩:∃c1,c1=(aU 8 c).2:=⟨_,rfl⟩;rw[p9,<-hkd,<-hc1];refine zo (rs:=[.cell 6 26]) zmx func87 ntmps87 rfl rfl rfl rfl rfl ?_;simp -implicitDefEqProofs (disch:=omega) only[go_sem];refine aQ rfl (dX hB c (1+l) j _ 8 (by rw[aX];exact hk) (by omega) (by omega)) ?_;rw[<-hkd,<-hc1];have d0:decide (((0:Nat):Int)<=0)=true:=rfl;simp -implicitDefEqProofs (disch:=omega) only[go_sem]
  with_reducible refine ay (fun hb=> ?_) (fun hb=> ?_)<;>have h:=hb<;>(try simp only[wf_preprocess] at h)<;>simp -implicitDefEqProofs (disch:=omega) only[go_sem,hb,d0]<;>(repeat(with_reducible refine And.intro ?_ ?_;focus first|omega|rfl|assumption|exact⟨_,rfl,rfl⟩|(simp;omega)|(simp;done)))
  rotate_left
  rw[if_neg (by omega)]
  rotate_left
  with_reducible refine ay (fun hb=> ?_) (fun hb=> ?_)<;>have h:=hb<;>(try simp only[wf_preprocess] at h)<;>simp -implicitDefEqProofs (disch:=omega) only[go_sem,hb,d0]<;>(repeat(with_reducible refine And.intro ?_ ?_;focus first|omega|rfl|assumption|exact⟨_,rfl,rfl⟩|(simp;omega)|(simp;done)))
  ·have hx:=fG (n:=vars.length) c1 (by omega)
   have hi:(aU (vars.length:Int) c1).1.toNat<vars.length:=by omega
   rw[if_pos ⟨by omega,by omega⟩];refine aQ rfl (dX hB c1 (1+l) j _ vars.length (by rw[aX];exact g _) (by omega) (by omega)) ?_;simp -implicitDefEqProofs (disch:=omega) only[go_sem,encS]
   (repeat(with_reducible refine And.intro ?_ ?_;focus first|omega|rfl|assumption|exact⟨_,rfl,rfl⟩|(simp;omega)|(simp;done)))
   rw[P7 c1 hi];refine aA (P6 (bN vars c1).1) ?_;simp -implicitDefEqProofs (disch:=omega) only[go_sem]<;>(repeat(with_reducible refine And.intro ?_ ?_;focus first|omega|rfl|assumption|exact⟨_,rfl,rfl⟩|(simp;omega)|(simp;done)));exact⟨rfl,_,rfl,.inr ⟨rfl,fun e he=>by cases he⟩⟩
  rw[if_neg (by omega)]
  all_goals with_reducible refine ay (fun hb=> ?_) (fun hb=> ?_)<;>have h:=hb<;>(try simp only[wf_preprocess] at h)<;>simp -implicitDefEqProofs (disch:=omega) only[go_sem,hb,d0]<;>(repeat(with_reducible refine And.intro ?_ ?_;focus first|omega|rfl|assumption|exact⟨_,rfl,rfl⟩|(simp;omega)|(simp;done)))
  all_goals
   refine dQ [true] rfl (gN hB c1 (1+l) j _ Cm (by rw[aX];exact g _) (by decide) (by decide)) ?_;simp -implicitDefEqProofs (disch:=omega) only[go_sem];refine aQ rfl (yt _ [] rfl (ba _) (.inr rfl)) ?_;simp -implicitDefEqProofs (disch:=omega) only[go_sem];exact⟨rfl,_,rfl,.inl ⟨1,rfl,rfl⟩⟩
 |succ n ih=>
  intro c l j S hk hn;have g:∀x:Ab.Obj,aN (aR S (l,j) x) (l,j)=some x:=fun x=>bX _ _ _ _ hk;obtain⟨k,hkd⟩:∃k,k=(aU 8 c).1:=⟨_,rfl⟩;obtain⟨c1,hc1⟩:∃c1,c1=(aU 8 c).2:=⟨_,rfl⟩;have ih1:=fun c l j S hk=>Gc (ih c l j S hk (by omega));rw[p9,<-hkd,<-hc1];refine zo (rs:=[.cell 6 26]) zmx func87 ntmps87 rfl rfl rfl rfl rfl ?_;simp -implicitDefEqProofs (disch:=omega) only[go_sem];refine aQ rfl (dX hB c (1+l) j _ 8 (by rw[aX];exact hk) (by omega) (by omega)) ?_;rw[<-hkd,<-hc1];have d0:decide (((n+1:Nat):Int)<=0)=false:=decide_eq_false (by omega)
  have d1:((n+1:Nat):Int)-1=(n:Int):=by omega
  simp -implicitDefEqProofs (disch:=omega) only[go_sem]
  with_reducible refine ay (fun hb=> ?_) (fun hb=> ?_)<;>have h:=hb<;>(try simp only[wf_preprocess] at h)<;>simp -implicitDefEqProofs (disch:=omega) only[go_sem,hb,d0]<;>(repeat(with_reducible refine And.intro ?_ ?_;focus first|omega|rfl|assumption|exact⟨_,rfl,rfl⟩|(simp;omega)|(simp;done)))
  rotate_left
  rw[if_neg (by omega)]
  rotate_left
  with_reducible refine ay (fun hb=> ?_) (fun hb=> ?_)<;>have h:=hb<;>(try simp only[wf_preprocess] at h)<;>simp -implicitDefEqProofs (disch:=omega) only[go_sem,hb,d0]<;>(repeat(with_reducible refine And.intro ?_ ?_;focus first|omega|rfl|assumption|exact⟨_,rfl,rfl⟩|(simp;omega)|(simp;done)))
  ·have hx:=fG (n:=vars.length) c1 (by omega)
   have hi:(aU (vars.length:Int) c1).1.toNat<vars.length:=by omega
   rw[if_pos ⟨by omega,by omega⟩];refine aQ rfl (dX hB c1 (1+l) j _ vars.length (by rw[aX];exact g _) (by omega) (by omega)) ?_;simp -implicitDefEqProofs (disch:=omega) only[go_sem,encS]
   (repeat(with_reducible refine And.intro ?_ ?_;focus first|omega|rfl|assumption|exact⟨_,rfl,rfl⟩|(simp;omega)|(simp;done)))
   rw[P7 c1 hi];refine aA (P6 (bN vars c1).1) ?_;simp -implicitDefEqProofs (disch:=omega) only[go_sem]<;>(repeat(with_reducible refine And.intro ?_ ?_;focus first|omega|rfl|assumption|exact⟨_,rfl,rfl⟩|(simp;omega)|(simp;done)));exact⟨rfl,_,rfl,.inr ⟨rfl,fun e he=>by cases he⟩⟩
  rw[if_neg (by omega)]
  all_goals
   with_reducible refine ay (fun hb=> ?_) (fun hb=> ?_)<;>have h:=hb<;>(try simp only[wf_preprocess] at h)<;>simp -implicitDefEqProofs (disch:=omega) only[go_sem,hb,d0]<;>(repeat(with_reducible refine And.intro ?_ ?_;focus first|omega|rfl|assumption|exact⟨_,rfl,rfl⟩|(simp;omega)|(simp;done)))
   ·rw[if_pos (by omega)];refine dQ [true] rfl (gN hB c1 (1+l) j _ Cm (by rw[aX];exact g _) (by decide) (by decide)) ?_;simp -implicitDefEqProofs (disch:=omega) only[go_sem];refine aQ rfl (yt _ [] rfl (ba _) (.inr rfl)) ?_;simp -implicitDefEqProofs (disch:=omega) only[go_sem];exact⟨rfl,_,rfl,.inl ⟨1,rfl,rfl⟩⟩
   rw[if_neg (by omega)]
   with_reducible refine ay (fun hb=> ?_) (fun hb=> ?_)<;>have h:=hb<;>(try simp only[wf_preprocess] at h)<;>simp -implicitDefEqProofs (disch:=omega) only[go_sem,hb,d1]<;>(repeat(with_reducible refine And.intro ?_ ?_;focus first|omega|rfl|assumption|exact⟨_,rfl,rfl⟩|(simp;omega)|(simp;done)))
   ·rw[if_pos (by omega)];refine aQ rfl (ih1 c1 (1+l) j _ (by rw[aX];exact g _)) ?_;simp -implicitDefEqProofs (disch:=omega) only[go_sem,d1];refine aQ rfl (ih1 (p9 vars n c1).2 (1+l) j _ (by rw[aX];exact g _)) ?_;simp -implicitDefEqProofs (disch:=omega) only[go_sem]
    (repeat(with_reducible refine And.intro ?_ ?_;focus first|omega|rfl|assumption|exact⟨_,rfl,rfl⟩|(simp;omega)|(simp;done)))
    refine aQ rfl (yt _ [(p9 vars n c1).1,(p9 vars n (p9 vars n c1).2).1] (by simp only[ag,az,au.aB]) (by simp) (.inr rfl)) ?_;simp -implicitDefEqProofs (disch:=omega) only[go_sem];refine⟨rfl,_,rfl,.inl ⟨1,?_,?_⟩⟩<;>simp only[vF,au.fArgs,ag,az,au.aB]<;>rfl
   ·rw[if_neg (by omega)];refine dQ [true] rfl (gN hB c1 (1+l) j _ zX (by rw[aX];exact g _) (by decide) (by decide)) ?_;simp -implicitDefEqProofs (disch:=omega) only[go_sem,d1];refine aQ rfl (ih1 (bN zX c1).2 (1+l) j _ (by rw[aX];exact g _)) ?_;simp -implicitDefEqProofs (disch:=omega) only[go_sem]
    (repeat(with_reducible refine And.intro ?_ ?_;focus first|omega|rfl|assumption|exact⟨_,rfl,rfl⟩|(simp;omega)|(simp;done)))
    refine aQ rfl (yt _ [(p9 vars n (bN zX c1).2).1] (by simp only[ag,az,au.aB]) (by simp) (.inr rfl)) ?_;simp -implicitDefEqProofs (disch:=omega) only[go_sem];refine⟨rfl,_,rfl,.inl ⟨1,?_,?_⟩⟩<;>simp only[vF,au.fArgs,ag,az,au.aB]<;>rfl
theorem xI:∀n:Nat,(∀x:au,SizeOf.sizeOf x<n->∀y:au,x.sz<=4194304->aF prog 47 [x.v,y.v] (.c (.d (.b (dec (x=y))))))/\
 (∀xs:List au,SizeOf.sizeOf xs<n->∀ys:List au,xs.length+bC (xs.map au.enc)<=4194304->aF prog 119 [.c (.d (.sl (xs.map au.enc))),.c (.d (.sl (ys.map au.enc)))] (.c (.d (.b (dec (xs=ys))))))
 |0=>⟨fun x h=>by omega,fun x h=>by omega⟩
 |n+1=>by
  obtain⟨ih,mD⟩:=xI n;refine⟨fun x hn y hsz S=> ?_,fun xs hn ys hsz S=> ?_⟩
  ·have j4:=au.jo x;simp only[au.sz,au.aB,bG,dR,D.sz,ai] at hsz;refine zcx [.tmp 4] func47 ntmps47 ?_;simp -implicitDefEqProofs (disch:=omega) only[go_sem]
   with_reducible refine ay (fun hb=> ?_) (fun hb=> ?_)<;>have h:=hb<;>(try simp only[wf_preprocess] at h)<;>simp -implicitDefEqProofs (disch:=omega) only[go_sem,hb]<;>(repeat(with_reducible refine And.intro ?_ ?_;focus first|omega|rfl|assumption|exact⟨_,rfl,rfl⟩|(simp;omega)|(simp;done)))
   ·with_reducible refine ay (fun hb=> ?_) (fun hb=> ?_)<;>have h:=hb<;>(try simp only[wf_preprocess] at h)<;>simp -implicitDefEqProofs (disch:=omega) only[go_sem,hb]<;>(repeat(with_reducible refine And.intro ?_ ?_;focus first|omega|rfl|assumption|exact⟨_,rfl,rfl⟩|(simp;omega)|(simp;done)))
    ·(repeat(with_reducible refine And.intro ?_ ?_;focus first|omega|rfl|assumption|exact⟨_,rfl,rfl⟩|(simp;omega)|(simp;done)))
     refine aA (mD x.fArgs (by omega) y.fArgs (by omega)) ?_;simp -implicitDefEqProofs (disch:=omega) only[go_sem];refine aO (mo ⟨fun e=> ?_,fun e=>by rw[e]⟩);exact au.ext ‹x.aH=y.aH› h e
    ·exact aO (aT (fun e=>h (by rw[e]))).symm
   ·exact aO (aT (fun e=>h (by rw[e]))).symm
  ·refine zcx [.tmp 4] func119 ntmps119 ?_;simp -implicitDefEqProofs (disch:=omega) only[go_sem]
   with_reducible refine ay (fun hb=> ?_) (fun hb=> ?_)<;>have h:=hb<;>(try simp only[wf_preprocess] at h)<;>simp -implicitDefEqProofs (disch:=omega) only[go_sem,hb]<;>(repeat(with_reducible refine And.intro ?_ ?_;focus first|omega|rfl|assumption|exact⟨_,rfl,rfl⟩|(simp;omega)|(simp;done)))
   ·exact aO (aT (fun e=>h (by rw[e]))).symm
   have hl:xs.length=ys.length:=by omega
   refine bI (ι:=Nat) zmx rfl [0,1,5] (fun y=>[.c (.d (.sl (xs.map au.enc))),.c (.d (.sl (ys.map au.enc))),.c (.d (.i .i64 y))]) (fun y=>[]::S)
    (fun i=>i<=xs.length/\∀j,j<i->xs[j]? =ys[j]?) (fun y=>xs.length-y) 0 rfl rfl ⟨ba _,fun j h=>by omega⟩ ?_
   rintro i ⟨p1,p2⟩;simp -implicitDefEqProofs (disch:=omega) only[go_sem]
   with_reducible refine ay (fun hb=> ?_) (fun hb=> ?_)<;>have h:=hb<;>(try simp only[wf_preprocess] at h)<;>simp -implicitDefEqProofs (disch:=omega) only[go_sem,hb]<;>(repeat(with_reducible refine And.intro ?_ ?_;focus first|omega|rfl|assumption|exact⟨_,rfl,rfl⟩|(simp;omega)|(simp;done)))
   ·have hi:i<xs.length:=by omega
    have hi':i<ys.length:=by omega
    have hx:xs[i].sz<=bC (xs.map au.enc):=iK (cE (ap hi))
    (repeat(with_reducible refine And.intro ?_ ?_;focus first|omega|rfl|assumption|exact⟨_,rfl,rfl⟩|(simp;omega)|(simp;done)))
    refine aA (ih xs[i] (by have:=bc (ap hi);omega) ys[i] (by omega)) ?_;simp -implicitDefEqProofs (disch:=omega) only[go_sem]
    with_reducible refine ay (fun hb=> ?_) (fun hb=> ?_)<;>have h:=hb<;>(try simp only[wf_preprocess] at h)<;>simp -implicitDefEqProofs (disch:=omega) only[go_sem,hb]<;>(repeat(with_reducible refine And.intro ?_ ?_;focus first|omega|rfl|assumption|exact⟨_,rfl,rfl⟩|(simp;omega)|(simp;done)))
    ·exact aO (aT (fun e=>h (by simp only[e]))).symm
    refine bZ (i+1) (by omega) rfl rfl ⟨by omega,fun j hj=> ?_⟩;by_cases e:j=i
    ·subst e;rw[al hi,al hi',h]
    ·exact p2 j (by omega)
   ·have hi:i=xs.length:=by omega
    refine aO (cK (dy fun j=> ?_)).symm;by_cases hj:j<i
    ·exact p2 j hj
    ·rw[ck (by omega),ck (by omega)]
theorem GX(x y:au)(h:x.sz<=4194304):aF prog 47 [x.v,y.v] (.c (.d (.b (dec (x=y))))):=(xI _).1 x (br _) y h
section
variable {w:World} {σ:Nat->Nat}
def Ns:C->Option D
 | .d d=>some d
 | .bB es=>some (.sl es)
 | .bM _ es=>some (.sl es)
 |_=>none
theorem Zt{S S':Store}{β β':Hs}{c:C}{d:D}{v:Value}(h:Ns c=some d)(hr:dS w σ S β c v):dS w σ S' β' (.d d) v:=by
 cases c<;>simp only[Ns,cb] at h<;>first|(cases h;done)|(subst h;first|exact hr|exact hr.1)
theorem Ej{S S':Store}{β β':Hs}{pre:List C}{ds:List D}{x x' y y':C}{a:List Value}(h1:pre.map Ns=ds.map some)(hr:dF w σ S β (pre++[x,y]) a)
 (hx:∀v,a[pre.length]? =some v->dS w σ S β x v->dS w σ S' β' x' v)(hy:∀v,a[pre.length+1]? =some v->dS w σ S β y v->dS w σ S' β' y' v):dF w σ S' β' (ds.map .d++[x',y']) a:=by
 have hl:pre.length=ds.length:=by have:=congrArg List.length h1;simpa using this
 refine⟨by have:=hr.1;simp only[ab,ai,aa,aq,hl] at this ⊢;exact this,fun j c hc=> ?_⟩;rcases ey j pre.length with hj|hj
 ·rw[an (by simp;omega),be] at hc;obtain⟨d,hd,rfl⟩:=Option.map_eq_some_iff.1 hc;have hp:=congrArg (fun l=>l[j]?) h1;simp only[be,hd,cQ,al hj] at hp;obtain⟨v,e1,e2,e3⟩:=hr.2 j pre[j] (by rw[an hj,al hj]);exact⟨v,e1,Zt (cx hp) e2,e3⟩
 obtain⟨k,rfl⟩:∃k,j=pre.length+k:=⟨j-pre.length,by omega⟩;rw[ac (by simp;omega),ai,<-hl,cz] at hc
 match k,hc with
 |0,hc=>
  cases hc;obtain⟨v,e1,e2,e3⟩:=hr.2 pre.length x (by rw[ac (ax _),cq];rfl);exact⟨v,e1,hx v e1 e2,e3⟩
 |1,hc=>
  cases hc;obtain⟨v,e1,e2,e3⟩:=hr.2 (pre.length+1) y (by rw[ac (by omega),cz];rfl);exact⟨v,e1,hy v e1 e2,e3⟩
 |k+2,hc=>simp at hc
end
section
variable {P:Program} {S S':Store} {f:FuncId} {args:List V}
def Two(ds:List D)(z z':Nat)(es es':List (List D))(S':Store)(r:V)(own:List Obj)(S1:Store):Prop:=S1=S'/\∃pre x y,r=.agg (pre++[x,y])/\pre.map Ns=ds.map some/\Eh own x z es/\Eh own y z' es'
theorem je.agV{ds:List D}{z z':Nat}{es es':List (List D)}(h:je P f args S (Two ds z z' es es' S')):
 bL P f args S fun r S1=>r=.agg (ds.map .d++[.d (.sl es),.d (.sl es')])/\S1=S':=by
 refine⟨h.1,fun w σ β vs hS hv=>(h.2 w σ β vs hS hv).mono fun e w' ⟨v,r,own,S1,bo,β1,σ',q1,q2,q3,q4,q5,q6,pre,x,y,q7,h1,q8,q9⟩=> ?_⟩;subst q6 q7;obtain⟨a,rfl,hc⟩:=q5;exact⟨_,.agg (ds.map .d++[.d (.sl es),.d (.sl es')]),S1,σ',β1,q1,q2.E5,q3,⟨q4.size,q4.os,q4.output,q4.far,q4.near,fun b hb=>q4.own b (sZ hb)⟩,⟨a,rfl,Ej (x':=.d (.sl es)) (y':=.d (.sl es')) h1 hc (fun v e1 e2=>tY q8 e2) (fun v e1 e2=>tY q9 e2)⟩,rfl,rfl⟩
theorem je.aiG{ds:List D}{z z':Nat}{es es':List (List D)}(hz:z≠z')(ht:wS S'=true)(h:je P f args S (Two ds z z' es es' S')):
 bL P f args S fun r S1=>r=.agg (ds.map .d++[.bM (0,uO S') es,.bM (0,uO S'+1) es'])/\S1=FB S' [.tok z es,.tok z' es']:=by
 refine⟨h.1,fun w σ β vs hS hv=>(h.2 w σ β vs hS hv).mono fun e w' ⟨v,r,own,S1,bo,β1,σ',q1,q2,q3,q4,q5,q6,pre,x,y,q7,h1,q8,q9⟩=> ?_⟩;subst q6 q7;obtain⟨a,rfl,hc⟩:=q5;obtain⟨u,e1,e2,e3⟩:=hc.2 pre.length x (by rw[ac (ax _),cq];rfl);obtain⟨u',FT,e2',e3'⟩:=hc.2 (pre.length+1) y (by rw[ac (by omega),cz];rfl);obtain⟨k1,k2⟩:=GV q2 q8 e2;obtain⟨k1',k2'⟩:=GV q2 q9 e2'
 cases S1 with
 |nil=>cases ht
 |cons fr Ω=>
 have hd:=q2.E5
 obtain⟨bf,bΩ,rfl,hlen⟩:∃bf bΩ,β1=bf::bΩ/\bf.length=fr.length:=by
  cases β1 with
  |nil=>have:=hd.shape.1;simp at this
  |cons bf bΩ=>
   refine⟨bf,bΩ,rfl,?_⟩;obtain⟨gr,q1,q2⟩:=hd.shape.2 0 fr rfl;simp at q1;rw[q1];exact q2
 obtain⟨l1,l2,l3⟩:=hd.lay (o:=.tok z es) (h:=u) hlen (k1 _ _) fun b hb ⟨k,o,hh,f1,f2,f3⟩=>by
  obtain⟨m,g1,g2,g3⟩:=k2 b hb;have:=q2.apart (0,m) (k.1+1,k.2) _ o u hh b (by rw[aD];exact g1) (by rw[aD];exact g3) hb (by rw[aV];exact f1) (by rw[aV];exact f2) f3;cases this
 obtain⟨l4,l5,l6⟩:=l1.lay (o:=.tok z' es') (h:=u') (by simp[hlen]) (k1' _ _) fun b hb ⟨k,o,hh,f1,f2,f3⟩=>by
  obtain⟨m',g1',g2',g3'⟩:=k2' b hb;rcases l3 b ⟨k,o,hh,f1,f2,f3⟩ with⟨k,o,hh,f1,f2,f3⟩|q
  ·have:=q2.apart (0,m') (k.1+1,k.2) _ o u' hh b (by rw[aD];exact g1') (by rw[aD];exact g3') hb (by rw[aV];exact f1) (by rw[aV];exact f2) f3;cases this
  ·obtain⟨m,g1,g2,g3⟩:=k2 b q;have:=q2.apart (0,m') (0,m) _ _ u' u b (by rw[aD];exact g1') (by rw[aD];exact g3') hb (by rw[aD];exact g1) (by rw[aD];exact g3) q;cases this;rw[g1] at g1';injection g1' with g1';injection g1' with g1';exact hz g1'
 have el:(fr++[Obj.tok z es]).length=fr.length+1:=by simp
 refine⟨_,.agg (ds.map .d++[.bM (0,uO (fr::Ω)) es,.bM (0,uO (fr::Ω)+1) es']),_,σ',_,q1,l4,(q3.trans l2).trans l5,⟨q4.size,q4.os,q4.output,q4.far,q4.near,fun b hb=> ?_⟩,⟨a,rfl,Ej h1 hc (fun v f1 f2=> ?_) fun v f1 f2=> ?_⟩,rfl,?_⟩
 ·rcases l6 b hb with q|q
  ·rcases l3 b q with q|q
   ·exact q4.own b (sZ q)
   ·obtain⟨m,g1,g2,g3⟩:=k2 b q;exact q4.own b ⟨(0,m),_,u,by rw[aD];exact g1,by rw[aD];exact g3,q⟩
  ·obtain⟨m,g1,g2,g3⟩:=k2' b q;exact q4.own b ⟨(0,m),_,u',by rw[aD];exact g1,by rw[aD];exact g3,q⟩
 ·rw[e1] at f1;cases f1;refine⟨tY q8 e2,.tok z es,?_,fun aJ es' e=> ?_⟩
  ·rw[fJ,aD,an (by simp),ac (ax _),cq];rfl
  obtain⟨_,rfl⟩:=mK (lab:=none) e;refine⟨ax _,fun _=> ?_⟩;rw[fJ,aD,<-hlen,an (by simp),ac (ax _),cq];rfl
 ·rw[FT] at f1;cases f1;refine⟨tY q9 e2',.tok z' es',?_,fun aJ es' e=> ?_⟩
  ·rw[fJ,<-el];exact bg _ _ _
  obtain⟨_,rfl⟩:=mK (lab:=none) e;refine⟨ax _,fun _=> ?_⟩;rw[fJ,<-el,show(fr++[Obj.tok z es]).length=(bf++[u]).length by simp[hlen]];exact bg _ _ _
 ·rw[iM,bk];rfl
end
def zT:au:=.mk 0 [] []
def lT(n:Int):aj:=.mk 1 [] [] n zT [] []
def rF(n:Int):aj:=.mk 2 [] [] n zT [] []
def vG(s:List UInt8):aj:=.mk 3 [] s 0 zT [] []
def oH(k:Int)(s:List UInt8)(l:List aj):aj:=.mk k [] s 0 zT l []
def JD:List (List UInt8):=[[102],[103]]
def vV:List (List UInt8):=[[115,104,111,119],[97,100,100]]
def rG:List (List UInt8):=[[43],[45],[42],[60],[61]]
theorem acG:eG JD:=by unfold eG;decide
theorem V6:eG vV:=by unfold eG;decide
theorem V7:eG rG:=by unfold eG;decide
def aL:List (List UInt8):=[[97]]
theorem afg:eG aL:=by unfold eG;decide
def iw{bs:List Int}(k:Int)(sub:List (List UInt8)->Cu bs->aj×Cu bs)(vars:List (List UInt8))(c:Cu bs):aj×Cu bs:=
 if k=1 then(rF (aU 2 c).1,(aU 2 c).2) else
 if(k=2\/k=3)/\0<vars.length then(vG (bN vars c).1,(bN vars c).2) else
 if k=4 then(oH 4 (bN JD c).1 [(sub vars (bN JD c).2).1],(sub vars (bN JD c).2).2) else
 if k=5 then(.mk 5 (bN vV c).1 [109] 0 zT [(sub vars (bN vV c).2).1,(sub vars (sub vars (bN vV c).2).2).1] [],(sub vars (sub vars (bN vV c).2).2).2) else
 if k=6 then(oH 6 [99,111,110,115] [(sub vars c).1,(sub vars (sub vars c).2).1],(sub vars (sub vars c).2).2) else
 if k=7 then(.mk 7 [] [] 0 zT [(sub vars c).1] [.mk [110,105,108] [] (sub vars (sub vars c).2).1,.mk [99,111,110,115] [[104],[116]] (sub (vars++[[104],[116]]) (sub vars (sub vars c).2).2).1],(sub (vars++[[104],[116]]) (sub vars (sub vars c).2).2).2) else
 if k=8 then(oH 8 [121] [(sub vars c).1,(sub (vars++[[121]]) (sub vars c).2).1],(sub (vars++[[121]]) (sub vars c).2).2) else
 if k=9 then(oH 9 [] [(sub vars c).1,(sub vars (sub vars c).2).1,(sub vars (sub vars (sub vars c).2).2).1],(sub vars (sub vars (sub vars c).2).2).2) else
 if k=10 then(oH 10 (bN rG c).1 [(sub vars (bN rG c).2).1,(sub vars (sub vars (bN rG c).2).2).1],(sub vars (sub vars (bN rG c).2).2).2) else
 if k=11 then(.mk 11 [115,104,111,119] [] 0 zT [(sub vars c).1] [],(sub vars c).2) else
 if k=12 then(.mk 12 [] [] 0 (p9 aL 1 c).1 [(sub vars (p9 aL 1 c).2).1] [],(sub vars (p9 aL 1 c).2).2) else
 (lT ((aU 20 c).1-5),(aU 20 c).2)
def dA{bs:List Int}:Nat->List (List UInt8)->Cu bs->aj×Cu bs
 |0,vars,c=>iw ((aU 13 c).1.tmod 3) (fun _ c=>(lT 0,c)) vars (aU 13 c).2
 |n+1,vars,c=>iw (aU 13 c).1 (dA n) vars (aU 13 c).2
theorem eG.append{a b:List (List UInt8)}(h:eG a)(k:eG b):eG (a++b):=fun s hs=>(ec.1 hs).elim (h s) (k s)
theorem jA(k:Int)(t s:List UInt8)(n:Int)(ty:au)(a:List aj)(b:List aK):(aj.mk k t s n ty a b).sz=t.length+s.length+ty.sz+a.length+bC (a.map aj.enc)+b.length+bC (b.map aK.enc):=by
 have:=au.dz ty;simp only[aj.sz,aj.aB,bG,dR,D.sz,ai,aj.aH,aj.aW,aj.fName,aj.fN,aj.fType,aj.fArgs,aj.aG,this];omega
theorem oI(s:List UInt8)(v:List (List UInt8))(b:aj):bG (aK.mk s v b).enc=s.length+v.length+bC (v.map encS)+b.sz:=by
 have:=aj.dz b;simp only[aK.aB,bG,dR,D.sz,ai,aK.bK,aK.bH,aK.fBody,this];omega
theorem qF:zT.sz=0:=by simp[zT,au.sz,au.aB,bG,D.sz,bC,au.fName,au.fArgs]
theorem P9{bs:List Int}{k:Int}{sub:List (List UInt8)->Cu bs->aj×Cu bs}{vars:List (List UInt8)}{m:Nat}(hv:eG vars)(hs:∀v c,eG v->(sub v c).1.sz<=m)(c:Cu bs):(iw k sub vars c).1.sz<=3*m+40:=by
 have h1:=fun c=>hs vars c hv;have h2:=fun c=>hs (vars++[[104],[116]]) c (hv.append (by unfold eG;decide));have h3:=fun c=>hs (vars++[[121]]) c (hv.append (by unfold eG;decide));unfold iw;by_cases e0:k=1
 ·rw[if_pos e0];simp only[rF,vG,oH,lT,jA,oI,qF,ag,az,aa,aq,bC,aj.dz,encS,bG,D.sz];omega
 rw[if_neg e0];by_cases e1:(k=2\/k=3)/\0<vars.length
 ·rw[if_pos e1];simp only[rF,vG,oH,lT,jA,oI,qF,ag,az,aa,aq,bC,aj.dz,encS,bG,D.sz];have:=iY c hv;omega
 rw[if_neg e1];by_cases e2:k=4
 ·rw[if_pos e2];simp only[rF,vG,oH,lT,jA,oI,qF,ag,az,aa,aq,bC,aj.dz,encS,bG,D.sz];have:=iY c acG;have:=h1 (bN JD c).2;omega
 rw[if_neg e2];by_cases e3:k=5
 ·rw[if_pos e3];simp only[rF,vG,oH,lT,jA,oI,qF,ag,az,aa,aq,bC,aj.dz,encS,bG,D.sz];have:=iY c V6;have:=h1 (bN vV c).2;have:=h1 (sub vars (bN vV c).2).2;omega
 rw[if_neg e3];by_cases e4:k=6
 ·rw[if_pos e4];simp only[rF,vG,oH,lT,jA,oI,qF,ag,az,aa,aq,bC,aj.dz,encS,bG,D.sz];have:=h1 c;have:=h1 (sub vars c).2;omega
 rw[if_neg e4];by_cases e5:k=7
 ·rw[if_pos e5];simp only[rF,vG,oH,lT,jA,oI,qF,ag,az,aa,aq,bC,aj.dz,encS,bG,D.sz];have:=h1 c;have:=h1 (sub vars c).2;have:=h2 (sub vars (sub vars c).2).2;omega
 rw[if_neg e5];by_cases e6:k=8
 ·rw[if_pos e6];simp only[rF,vG,oH,lT,jA,oI,qF,ag,az,aa,aq,bC,aj.dz,encS,bG,D.sz];have:=h1 c;have:=h3 (sub vars c).2;omega
 rw[if_neg e6];by_cases e7:k=9
 ·rw[if_pos e7];simp only[rF,vG,oH,lT,jA,oI,qF,ag,az,aa,aq,bC,aj.dz,encS,bG,D.sz];have:=h1 c;have:=h1 (sub vars c).2;have:=h1 (sub vars (sub vars c).2).2;omega
 rw[if_neg e7];by_cases e8:k=10
 ·rw[if_pos e8];simp only[rF,vG,oH,lT,jA,oI,qF,ag,az,aa,aq,bC,aj.dz,encS,bG,D.sz];have:=iY c V7;have:=h1 (bN rG c).2;have:=h1 (sub vars (bN rG c).2).2;omega
 rw[if_neg e8];by_cases e9:k=11
 ·rw[if_pos e9];simp only[rF,vG,oH,lT,jA,oI,qF,ag,az,aa,aq,bC,aj.dz,encS,bG,D.sz];have:=h1 c;omega
 rw[if_neg e9];by_cases e10:k=12
 ·rw[if_pos e10];simp only[rF,vG,oH,lT,jA,oI,qF,ag,az,aa,aq,bC,aj.dz,encS,bG,D.sz];have:=Zq afg 1 c;have:=h1 (p9 aL 1 c).2;omega
 rw[if_neg e10];simp only[rF,vG,oH,lT,jA,oI,qF,ag,az,aa,aq,bC,aj.dz,encS,bG,D.sz];omega
theorem Cn{bs:List Int}:∀(n:Nat)(vars:List (List UInt8))(c:Cu bs),eG vars->(dA n vars c).1.sz+20<=60*3^n
 |0,vars,c,hv=>by
  have:=P9 (k:=(aU 13 c).1.tmod 3) (sub:=fun _ c=>(lT 0,c)) (m:=0) hv (fun v c _=>by simp[lT,jA,qF,bC]) (aU 13 c).2;rw[dA];omega
 |n+1,vars,c,hv=>by
  have ih:=Cn n (bs:=bs);have:=P9 (k:=(aU 13 c).1) (sub:=dA n) (m:=60*3^n-20) hv (fun v c h=>by have:=ih v c h;omega) (aU 13 c).2;have h1:1<=3^n:=Nat.one_le_pow _ _ (by omega);rw[dA,fi];omega
theorem pF(k:Int)(t s:List UInt8)(n:Int)(ty:au)(a:List aj)(b:List aK):(aj.mk k t s n ty a b).fArgs=a:=rfl
theorem pG(k:Int)(t s:List UInt8)(n:Int)(ty:au)(a:List aj)(b:List aK):(aj.mk k t s n ty a b).aG=b:=rfl
theorem oJ(s:List UInt8)(v:List (List UInt8))(b:aj):(aK.mk s v b).enc=.s s:: .sl (v.map encS)::b.enc:=by rw[aK.aB];rfl
def exP(t:aj):List D:=[.i .i64 t.aH,.s t.aW,.s t.fName,.i .i64 t.fN,.i .i64 t.fType.aH,.s t.fType.fName,.sl (t.fType.fArgs.map au.enc)]
def Nt(t:aj)(S':Store):V->List Obj->Store->Prop:=Two (exP t) 9 11 (t.fArgs.map aj.enc) (t.aG.map aK.enc) S'
theorem zq(l:List aj):∀y∈l.map aj.enc,y.length=9:=by
 intro y hy;obtain⟨x,_,rfl⟩:=da.1 hy;exact aj.bF x
theorem acI(l:List aK):∀y∈l.map aK.enc,y.length=11:=by
 intro y hy;obtain⟨x,_,rfl⟩:=da.1 hy;exact aK.bF x
theorem ru(n:Int):aF prog 78 [.c (.d (.i .i64 n))] (.agg [.d (.i .i64 1),.d (.s []),.d (.s []),.d (.i .i64 n),.d (.i .i64 0),.d (.s []),.bB [],.bB [],.bB []]):=fun S=>by
 refine zcx [.cell 2 30] func78 ntmps78 ?_;simp -implicitDefEqProofs (disch:=omega) only[go_sem]
 first|done|exact⟨rfl,rfl⟩|rfl
theorem El(s:List UInt8):aF prog 85 [.c (.d (.s s))] (.agg [.d (.i .i64 3),.d (.s []),.d (.s s),.d (.i .i64 0),.d (.i .i64 0),.d (.s []),.bB [],.bB [],.bB []]):=fun S=>by
 refine zcx [.cell 2 30] func85 ntmps85 ?_;simp -implicitDefEqProofs (disch:=omega) only[go_sem]
 first|done|exact⟨rfl,rfl⟩|rfl
theorem Zu(k:Int)(s:List UInt8)(l:List aj){es:List (List D)}(he:es=l.map aj.enc)(hl:l.length<=1048576){a:C}(ha:a=.d (.sl es)\/a=.bB es)(S:Store):je prog 86 [.c (.d (.i .i64 k)),.c (.d (.s s)),.c a] S (Nt (oH k s l) S):=by
 subst he;refine zo (rs:=[.cell 6 30]) zmx func86 ntmps86 rfl rfl rfl rfl rfl ?_;have hln:=zq l;rcases ha with rfl|rfl
 all_goals
  simp -implicitDefEqProofs (disch:=omega) only[go_sem];refine⟨hln,⟨_,rfl,rfl⟩,fun y hy=>absurd hy ep,by omega,rfl,[_,_,_,_,_,_,_],_,_,rfl,rfl,.inl ⟨1,rfl,rfl⟩,.inr ⟨rfl,fun e he=>by cases he⟩⟩
theorem Gd{f:FuncId}{args:List V}{S S':Store}{t:aj}(h:je prog f args S (Nt t S')):bL prog f args S (fun r S1=>r=t.v/\S1=S'):=
 je.agV h
theorem JE{f:FuncId}{args:List V}{S S':Store}{t:aj}(ht:wS S'=true)(h:je prog f args S (Nt t S')):
 bL prog f args S (fun r S1=>r=.agg [.d (.i .i64 t.aH),.d (.s t.aW),.d (.s t.fName),.d (.i .i64 t.fN),.d (.i .i64 t.fType.aH),.d (.s t.fType.fName),.d (.sl (t.fType.fArgs.map au.enc)),.bM (0,uO S') (t.fArgs.map aj.enc),.bM (0,uO S'+1) (t.aG.map aK.enc)]/\S1=FB S' [.tok 9 (t.fArgs.map aj.enc),.tok 11 (t.aG.map aK.enc)]):=
 je.aiG (by decide) ht h
theorem uP(k:Int)(s:List UInt8)(l:List aj){es:List (List D)}(he:es=l.map aj.enc)(hl:l.length<=1048576){a:C}(ha:a=.d (.sl es)\/a=.bB es){own:List Ab.Obj}{Ω:Store}:
 bL prog 86 [.c (.d (.i .i64 k)),.c (.d (.s s)),.c a] (own::Ω) (fun r S1=>r=.agg [.d (.i .i64 k),.d (.s []),.d (.s s),.d (.i .i64 0),.d (.i .i64 0),.d (.s []),.d (.sl []),.bM (0,own.length) es,.bM (0,own.length+1) []]/\S1=(own++[.tok 9 es,.tok 11 []])::Ω):=by
 have:=JE (S':=own::Ω) rfl (Zu k s l he hl ha (own::Ω));rw[he];exact this
theorem Gf{bs:List Int}(hB:Bytes bs):∀(n:Nat)(vars:List (List UInt8))(c:Cu bs)(l j:Nat)(S:Store),vars.length+2*n<=256->aN S (l,j)=some (.box (cur c))->
 je prog 35 [.c (.ptr (l,j) 0),.c (.d (.sl (vars.map encS))),.c (.d (.i .i64 n))] S (Nt (dA n vars c).1 (aR S (l,j) (.box (cur (dA n vars c).2)))):=by
 intro n
 induction n with
 |zero=>
  intro vars c l j S hv hk;have g:∀x:Ab.Obj,aN (aR S (l,j) x) (l,j)=some x:=fun x=>bX _ _ _ _ hk;have hx:=fG (n:=13) c (by omega);have hy:=Int.tmod_lt_of_pos (aU 13 c).1 (b:=3) (by omega);have hz:=Int.tmod_nonneg 3 hx.1;obtain⟨k,hkd⟩:∃k,k=(aU 13 c).1.tmod 3:=⟨_,rfl⟩;obtain⟨c1,hc1⟩:∃c1,c1=(aU 13 c).2:=⟨_,rfl⟩;rw[dA,<-hkd,<-hc1];obtain⟨q,hq⟩:∃q,q=iw k (fun _ c=>(lT 0,c)) vars c1:=⟨_,rfl⟩;rw[<-hq];refine zo (rs:=[.cell 6 30]) zmx func35 ntmps35 rfl rfl rfl rfl rfl ?_;simp -implicitDefEqProofs (disch:=omega) only[go_sem];refine aQ rfl (dX hB c (1+l) j _ 13 (by rw[aX];exact hk) (by omega) (by omega)) ?_;rw[<-hc1];have d0:decide (((0:Nat):Int)<=0)=true:=rfl;simp -implicitDefEqProofs (disch:=omega) only[go_sem,d0]
  (repeat(with_reducible refine And.intro ?_ ?_;focus first|omega|rfl|assumption|exact⟨_,rfl,rfl⟩|(simp;omega)|(simp;done)))
  rw[<-hkd] at hy hz ⊢;have d1:k<3:=hy;have n3:decide (k=3)=false:=decide_eq_false (by omega);have n4:decide (k=4)=false:=decide_eq_false (by omega);have n5:decide (k=5)=false:=decide_eq_false (by omega);have n6:decide (k=6)=false:=decide_eq_false (by omega);have n7:decide (k=7)=false:=decide_eq_false (by omega);have n8:decide (k=8)=false:=decide_eq_false (by omega);have n9:decide (k=9)=false:=decide_eq_false (by omega);have n10:decide (k=10)=false:=decide_eq_false (by omega);have n11:decide (k=11)=false:=decide_eq_false (by omega);have n12:decide (k=12)=false:=decide_eq_false (by omega)
  with_reducible refine ay (fun hb=> ?_) (fun hb=> ?_)<;>have h:=hb<;>(try simp only[wf_preprocess] at h)<;>simp -implicitDefEqProofs (disch:=omega) only[go_sem,hb,n3,n4,n5,n6,n7,n8,n9,n10,n11,n12]<;>(repeat(with_reducible refine And.intro ?_ ?_;focus first|omega|rfl|assumption|exact⟨_,rfl,rfl⟩|(simp;omega)|(simp;done)))
  ·subst h;simp only[iw,reduceIte] at hq;refine aQ rfl (dX hB c1 (1+l) j _ 2 (by rw[aX];exact g _) (by omega) (by omega)) ?_;simp -implicitDefEqProofs (disch:=omega) only[go_sem,n3,n4,n5,n6,n7,n8,n9,n10,n11,n12];rw[hq];refine⟨rfl,[_,_,_,_,_,_,_],_,_,rfl,rfl,.inr ⟨rfl,fun e he=>by cases he⟩,.inr ⟨rfl,fun e he=>by cases he⟩⟩
  have e1:=h
  with_reducible refine ay (fun hb=> ?_) (fun hb=> ?_)<;>have h:=hb<;>(try simp only[wf_preprocess] at h)<;>simp -implicitDefEqProofs (disch:=omega) only[go_sem,hb,n3,n4,n5,n6,n7,n8,n9,n10,n11,n12]<;>(repeat(with_reducible refine And.intro ?_ ?_;focus first|omega|rfl|assumption|exact⟨_,rfl,rfl⟩|(simp;omega)|(simp;done)))
  ·subst h
   with_reducible refine ay (fun hb=> ?_) (fun hb=> ?_)<;>have h:=hb<;>(try simp only[wf_preprocess] at h)<;>simp -implicitDefEqProofs (disch:=omega) only[go_sem,hb]<;>(repeat(with_reducible refine And.intro ?_ ?_;focus first|omega|rfl|assumption|exact⟨_,rfl,rfl⟩|(simp;omega)|(simp;done)))
   ·have hl:0<vars.length:=by omega
    simp only[iw,reduceIte,Int.reduceEq,false_or,or_false,or_self,false_and,true_and,if_pos hl] at hq;refine dQ [true] rfl (gN hB c1 (1+l) j _ vars (by rw[aX];exact g _) (by omega) (by omega)) ?_;simp -implicitDefEqProofs (disch:=omega) only[go_sem,n3,n4,n5,n6,n7,n8,n9,n10,n11,n12];refine aA (El (bN vars c1).1) ?_;simp -implicitDefEqProofs (disch:=omega) only[go_sem,n3,n4,n5,n6,n7,n8,n9,n10,n11,n12];rw[hq];refine⟨rfl,[_,_,_,_,_,_,_],_,_,rfl,rfl,.inr ⟨rfl,fun e he=>by cases he⟩,.inr ⟨rfl,fun e he=>by cases he⟩⟩
   ·have hl:¬0<vars.length:=by omega
    simp only[iw,reduceIte,Int.reduceEq,false_or,or_false,or_self,false_and,true_and,if_neg hl] at hq;have hx2:=fG (n:=20) c1 (by omega);refine aQ rfl (dX hB c1 (1+l) j _ 20 (by rw[aX];exact g _) (by omega) (by omega)) ?_;simp -implicitDefEqProofs (disch:=omega) only[go_sem,n3,n4,n5,n6,n7,n8,n9,n10,n11,n12]
    (repeat(with_reducible refine And.intro ?_ ?_;focus first|omega|rfl|assumption|exact⟨_,rfl,rfl⟩|(simp;omega)|(simp;done)))
    refine aA (ru ((aU 20 c1).1-5)) ?_;simp -implicitDefEqProofs (disch:=omega) only[go_sem,n3,n4,n5,n6,n7,n8,n9,n10,n11,n12];rw[hq];refine⟨rfl,[_,_,_,_,_,_,_],_,_,rfl,rfl,.inr ⟨rfl,fun e he=>by cases he⟩,.inr ⟨rfl,fun e he=>by cases he⟩⟩
  have e2:=h
  have e3:¬k=3:=by omega
  have e4:¬k=4:=by omega
  have e5:¬k=5:=by omega
  have e6:¬k=6:=by omega
  have e7:¬k=7:=by omega
  have e8:¬k=8:=by omega
  have e9:¬k=9:=by omega
  have e10:¬k=10:=by omega
  have e11:¬k=11:=by omega
  have e12:¬k=12:=by omega
  simp only[iw,if_neg e1,e2,e3,false_or,or_self,false_and,reduceIte,if_neg e4,if_neg e5,if_neg e6,if_neg e7,if_neg e8,if_neg e9,if_neg e10,if_neg e11,if_neg e12] at hq;have hx2:=fG (n:=20) c1 (by omega);refine aQ rfl (dX hB c1 (1+l) j _ 20 (by rw[aX];exact g _) (by omega) (by omega)) ?_;simp -implicitDefEqProofs (disch:=omega) only[go_sem,n3,n4,n5,n6,n7,n8,n9,n10,n11,n12]
  (repeat(with_reducible refine And.intro ?_ ?_;focus first|omega|rfl|assumption|exact⟨_,rfl,rfl⟩|(simp;omega)|(simp;done)))
  refine aA (ru ((aU 20 c1).1-5)) ?_;simp -implicitDefEqProofs (disch:=omega) only[go_sem,n3,n4,n5,n6,n7,n8,n9,n10,n11,n12];rw[hq];refine⟨rfl,[_,_,_,_,_,_,_],_,_,rfl,rfl,.inr ⟨rfl,fun e he=>by cases he⟩,.inr ⟨rfl,fun e he=>by cases he⟩⟩
 |succ n ih=>
  intro vars c l j S hv hk;have g:∀x:Ab.Obj,aN (aR S (l,j) x) (l,j)=some x:=fun x=>bX _ _ _ _ hk;have hx:=fG (n:=13) c (by omega);obtain⟨k,hkd⟩:∃k,k=(aU 13 c).1:=⟨_,rfl⟩;obtain⟨c1,hc1⟩:∃c1,c1=(aU 13 c).2:=⟨_,rfl⟩;have ih1:=fun vars c l j S hv hk=>Gd (ih vars c l j S hv hk);rw[dA,<-hkd,<-hc1];obtain⟨q,hq⟩:∃q,q=iw k (dA n) vars c1:=⟨_,rfl⟩;rw[<-hq];refine zo (rs:=[.cell 6 30]) zmx func35 ntmps35 rfl rfl rfl rfl rfl ?_;simp -implicitDefEqProofs (disch:=omega) only[go_sem];refine aQ rfl (dX hB c (1+l) j _ 13 (by rw[aX];exact hk) (by omega) (by omega)) ?_;rw[<-hkd,<-hc1];have d0:decide (((n+1:Nat):Int)<=0)=false:=decide_eq_false (by omega)
  have d1:((n+1:Nat):Int)-1=(n:Int):=by omega
  simp -implicitDefEqProofs (disch:=omega) only[go_sem,d0]
  have hm:∀y∈vars.map encS,y.length=1:=by
   intro y hy;obtain⟨z,_,rfl⟩:=da.1 hy;rfl
  with_reducible refine ay (fun hb=> ?_) (fun hb=> ?_)<;>have h:=hb<;>(try simp only[wf_preprocess] at h)<;>simp -implicitDefEqProofs (disch:=omega) only[go_sem,hb,d1]<;>(repeat(with_reducible refine And.intro ?_ ?_;focus first|omega|rfl|assumption|exact⟨_,rfl,rfl⟩|(simp;omega)|(simp;done)))
  ·subst h;simp only[iw,reduceIte] at hq;refine aQ rfl (dX hB c1 (1+l) j _ 2 (by rw[aX];exact g _) (by omega) (by omega)) ?_;simp -implicitDefEqProofs (disch:=omega) only[go_sem,d1];rw[hq];refine⟨rfl,[_,_,_,_,_,_,_],_,_,rfl,rfl,.inr ⟨rfl,fun e he=>by cases he⟩,.inr ⟨rfl,fun e he=>by cases he⟩⟩
  have e1:=h
  with_reducible refine ay (fun hb=> ?_) (fun hb=> ?_)<;>have h:=hb<;>(try simp only[wf_preprocess] at h)<;>simp -implicitDefEqProofs (disch:=omega) only[go_sem,hb,d1]<;>(repeat(with_reducible refine And.intro ?_ ?_;focus first|omega|rfl|assumption|exact⟨_,rfl,rfl⟩|(simp;omega)|(simp;done)))
  ·subst h
   with_reducible refine ay (fun hb=> ?_) (fun hb=> ?_)<;>have h:=hb<;>(try simp only[wf_preprocess] at h)<;>simp -implicitDefEqProofs (disch:=omega) only[go_sem,hb,d1]<;>(repeat(with_reducible refine And.intro ?_ ?_;focus first|omega|rfl|assumption|exact⟨_,rfl,rfl⟩|(simp;omega)|(simp;done)))
   ·have hl:0<vars.length:=by omega
    simp only[iw,reduceIte,Int.reduceEq,false_or,or_false,or_self,false_and,true_and,if_pos hl] at hq;refine dQ [true] rfl (gN hB c1 (1+l) j _ vars (by rw[aX];exact g _) (by omega) (by omega)) ?_;simp -implicitDefEqProofs (disch:=omega) only[go_sem,d1];refine aA (El (bN vars c1).1) ?_;simp -implicitDefEqProofs (disch:=omega) only[go_sem,d1];rw[hq];refine⟨rfl,[_,_,_,_,_,_,_],_,_,rfl,rfl,.inr ⟨rfl,fun e he=>by cases he⟩,.inr ⟨rfl,fun e he=>by cases he⟩⟩
   ·have hl:¬0<vars.length:=by omega
    simp only[iw,reduceIte,Int.reduceEq,false_or,or_false,or_self,false_and,true_and,if_neg hl] at hq;have hx2:=fG (n:=20) c1 (by omega);refine aQ rfl (dX hB c1 (1+l) j _ 20 (by rw[aX];exact g _) (by omega) (by omega)) ?_;simp -implicitDefEqProofs (disch:=omega) only[go_sem,d1]
    (repeat(with_reducible refine And.intro ?_ ?_;focus first|omega|rfl|assumption|exact⟨_,rfl,rfl⟩|(simp;omega)|(simp;done)))
    refine aA (ru ((aU 20 c1).1-5)) ?_;simp -implicitDefEqProofs (disch:=omega) only[go_sem,d1];rw[hq];refine⟨rfl,[_,_,_,_,_,_,_],_,_,rfl,rfl,.inr ⟨rfl,fun e he=>by cases he⟩,.inr ⟨rfl,fun e he=>by cases he⟩⟩
  have e2:=h
  with_reducible refine ay (fun hb=> ?_) (fun hb=> ?_)<;>have h:=hb<;>(try simp only[wf_preprocess] at h)<;>simp -implicitDefEqProofs (disch:=omega) only[go_sem,hb,d1]<;>(repeat(with_reducible refine And.intro ?_ ?_;focus first|omega|rfl|assumption|exact⟨_,rfl,rfl⟩|(simp;omega)|(simp;done)))
  ·subst h
   with_reducible refine ay (fun hb=> ?_) (fun hb=> ?_)<;>have h:=hb<;>(try simp only[wf_preprocess] at h)<;>simp -implicitDefEqProofs (disch:=omega) only[go_sem,hb,d1]<;>(repeat(with_reducible refine And.intro ?_ ?_;focus first|omega|rfl|assumption|exact⟨_,rfl,rfl⟩|(simp;omega)|(simp;done)))
   ·have hl:0<vars.length:=by omega
    simp only[iw,reduceIte,Int.reduceEq,false_or,or_false,or_self,false_and,true_and,if_pos hl] at hq;refine dQ [true] rfl (gN hB c1 (1+l) j _ vars (by rw[aX];exact g _) (by omega) (by omega)) ?_;simp -implicitDefEqProofs (disch:=omega) only[go_sem,d1];refine aA (El (bN vars c1).1) ?_;simp -implicitDefEqProofs (disch:=omega) only[go_sem,d1];rw[hq];refine⟨rfl,[_,_,_,_,_,_,_],_,_,rfl,rfl,.inr ⟨rfl,fun e he=>by cases he⟩,.inr ⟨rfl,fun e he=>by cases he⟩⟩
   ·have hl:¬0<vars.length:=by omega
    simp only[iw,reduceIte,Int.reduceEq,false_or,or_false,or_self,false_and,true_and,if_neg hl] at hq;have hx2:=fG (n:=20) c1 (by omega);refine aQ rfl (dX hB c1 (1+l) j _ 20 (by rw[aX];exact g _) (by omega) (by omega)) ?_;simp -implicitDefEqProofs (disch:=omega) only[go_sem,d1]
    (repeat(with_reducible refine And.intro ?_ ?_;focus first|omega|rfl|assumption|exact⟨_,rfl,rfl⟩|(simp;omega)|(simp;done)))
    refine aA (ru ((aU 20 c1).1-5)) ?_;simp -implicitDefEqProofs (disch:=omega) only[go_sem,d1];rw[hq];refine⟨rfl,[_,_,_,_,_,_,_],_,_,rfl,rfl,.inr ⟨rfl,fun e he=>by cases he⟩,.inr ⟨rfl,fun e he=>by cases he⟩⟩
  have e3:=h
  with_reducible refine ay (fun hb=> ?_) (fun hb=> ?_)<;>have h:=hb<;>(try simp only[wf_preprocess] at h)<;>simp -implicitDefEqProofs (disch:=omega) only[go_sem,hb,d1]<;>(repeat(with_reducible refine And.intro ?_ ?_;focus first|omega|rfl|assumption|exact⟨_,rfl,rfl⟩|(simp;omega)|(simp;done)))
  ·subst h;simp only[iw,reduceIte,Int.reduceEq,false_or,or_false,or_self,false_and] at hq;refine dQ [true] rfl (gN hB c1 (1+l) j _ JD (by rw[aX];exact g _) (by decide) (by decide)) ?_;simp -implicitDefEqProofs (disch:=omega) only[go_sem,d1];refine dQ [true] rfl (ih1 vars (bN JD c1).2 (1+l) j _ (by first|omega|(simp only[ab,aa,aq];omega)) (by rw[aX];exact g _)) ?_;simp -implicitDefEqProofs (disch:=omega) only[go_sem,d1]
   (repeat(with_reducible refine And.intro ?_ ?_;focus first|omega|rfl|assumption|exact⟨_,rfl,rfl⟩|(simp;omega)|(simp;done)))
   refine aQ rfl (uP 4 (bN JD c1).1 [(dA n vars (bN JD c1).2).1] (by simp only[ag,az,aj.aB,au.aB,am,aw]) (by simp) (.inr rfl)) ?_;simp -implicitDefEqProofs (disch:=omega) only[go_sem,d1];rw[hq];refine⟨rfl,[_,_,_,_,_,_,_],_,_,rfl,rfl,.inl ⟨1,?_,?_⟩,.inl ⟨2,?_,?_⟩⟩<;>simp only[oH,pF,pG,ag,az,aj.aB,oJ,au.aB,encS,am,aw]<;>rfl
  have e4:=h
  with_reducible refine ay (fun hb=> ?_) (fun hb=> ?_)<;>have h:=hb<;>(try simp only[wf_preprocess] at h)<;>simp -implicitDefEqProofs (disch:=omega) only[go_sem,hb,d1]<;>(repeat(with_reducible refine And.intro ?_ ?_;focus first|omega|rfl|assumption|exact⟨_,rfl,rfl⟩|(simp;omega)|(simp;done)))
  ·subst h;simp only[iw,reduceIte,Int.reduceEq,false_or,or_false,or_self,false_and] at hq;refine dQ [true] rfl (gN hB c1 (1+l) j _ vV (by rw[aX];exact g _) (by decide) (by decide)) ?_;simp -implicitDefEqProofs (disch:=omega) only[go_sem,d1];refine dQ [true] rfl (ih1 vars (bN vV c1).2 (1+l) j _ (by first|omega|(simp only[ab,aa,aq];omega)) (by rw[aX];exact g _)) ?_;simp -implicitDefEqProofs (disch:=omega) only[go_sem,d1];refine dQ [true] rfl (ih1 vars (dA n vars (bN vV c1).2).2 (1+l) j _ (by first|omega|(simp only[ab,aa,aq];omega)) (by rw[aX];exact g _)) ?_;simp -implicitDefEqProofs (disch:=omega) only[go_sem,d1]
   (repeat(with_reducible refine And.intro ?_ ?_;focus first|omega|rfl|assumption|exact⟨_,rfl,rfl⟩|(simp;omega)|(simp;done)))
   rw[hq];refine⟨rfl,[_,_,_,_,_,_,_],_,_,rfl,rfl,.inr ⟨?_,zq _⟩,.inr ⟨rfl,fun e he=>by cases he⟩⟩<;>simp only[oH,pF,pG,ag,az,aj.aB,oJ,au.aB,encS,am,aw]<;>rfl
  have e5:=h
  with_reducible refine ay (fun hb=> ?_) (fun hb=> ?_)<;>have h:=hb<;>(try simp only[wf_preprocess] at h)<;>simp -implicitDefEqProofs (disch:=omega) only[go_sem,hb,d1]<;>(repeat(with_reducible refine And.intro ?_ ?_;focus first|omega|rfl|assumption|exact⟨_,rfl,rfl⟩|(simp;omega)|(simp;done)))
  ·subst h;simp only[iw,reduceIte,Int.reduceEq,false_or,or_false,or_self,false_and] at hq;refine dQ [true] rfl (ih1 vars c1 (1+l) j _ (by first|omega|(simp only[ab,aa,aq];omega)) (by rw[aX];exact g _)) ?_;simp -implicitDefEqProofs (disch:=omega) only[go_sem,d1];refine dQ [true] rfl (ih1 vars (dA n vars c1).2 (1+l) j _ (by first|omega|(simp only[ab,aa,aq];omega)) (by rw[aX];exact g _)) ?_;simp -implicitDefEqProofs (disch:=omega) only[go_sem,d1]
   (repeat(with_reducible refine And.intro ?_ ?_;focus first|omega|rfl|assumption|exact⟨_,rfl,rfl⟩|(simp;omega)|(simp;done)))
   refine aQ rfl (uP 6 [99,111,110,115] [(dA n vars c1).1,(dA n vars (dA n vars c1).2).1] (by simp only[ag,az,aj.aB,au.aB,am,aw]) (by simp) (.inr rfl)) ?_;simp -implicitDefEqProofs (disch:=omega) only[go_sem,d1];rw[hq];refine⟨rfl,[_,_,_,_,_,_,_],_,_,rfl,rfl,.inl ⟨1,?_,?_⟩,.inl ⟨2,?_,?_⟩⟩<;>simp only[oH,pF,pG,ag,az,aj.aB,oJ,au.aB,encS,am,aw]<;>rfl
  have e6:=h
  with_reducible refine ay (fun hb=> ?_) (fun hb=> ?_)<;>have h:=hb<;>(try simp only[wf_preprocess] at h)<;>simp -implicitDefEqProofs (disch:=omega) only[go_sem,hb,d1]<;>(repeat(with_reducible refine And.intro ?_ ?_;focus first|omega|rfl|assumption|exact⟨_,rfl,rfl⟩|(simp;omega)|(simp;done)))
  ·subst h;simp only[iw,reduceIte,Int.reduceEq,false_or,or_false,or_self,false_and] at hq;refine dQ [true] rfl (ih1 vars c1 (1+l) j _ (by first|omega|(simp only[ab,aa,aq];omega)) (by rw[aX];exact g _)) ?_;simp -implicitDefEqProofs (disch:=omega) only[go_sem,d1];refine dQ [true] rfl (ih1 vars (dA n vars c1).2 (1+l) j _ (by first|omega|(simp only[ab,aa,aq];omega)) (by rw[aX];exact g _)) ?_;simp -implicitDefEqProofs (disch:=omega) only[go_sem,d1];have ih2:=fun c l j S hk=>ih1 (vars++[[104],[116]]) c l j S (by simp only[ab,aa,aq];omega) hk;simp only[bi,ag,az,encS] at ih2;refine dQ [true] rfl (ih2 (dA n vars (dA n vars c1).2).2 (1+l) j _ (by rw[aX];exact g _)) ?_;simp -implicitDefEqProofs (disch:=omega) only[go_sem,d1]
   (repeat(with_reducible refine And.intro ?_ ?_;focus first|omega|rfl|assumption|exact⟨_,rfl,rfl⟩|(simp;omega)|(simp;done)))
   rw[hq];refine⟨rfl,[_,_,_,_,_,_,_],_,_,rfl,rfl,.inr ⟨?_,zq _⟩,.inr ⟨?_,acI _⟩⟩<;>simp only[oH,pF,pG,ag,az,aj.aB,oJ,au.aB,encS,am,aw]<;>rfl
  have e7:=h
  with_reducible refine ay (fun hb=> ?_) (fun hb=> ?_)<;>have h:=hb<;>(try simp only[wf_preprocess] at h)<;>simp -implicitDefEqProofs (disch:=omega) only[go_sem,hb,d1]<;>(repeat(with_reducible refine And.intro ?_ ?_;focus first|omega|rfl|assumption|exact⟨_,rfl,rfl⟩|(simp;omega)|(simp;done)))
  ·subst h;simp only[iw,reduceIte,Int.reduceEq,false_or,or_false,or_self,false_and] at hq;refine dQ [true] rfl (ih1 vars c1 (1+l) j _ (by first|omega|(simp only[ab,aa,aq];omega)) (by rw[aX];exact g _)) ?_;simp -implicitDefEqProofs (disch:=omega) only[go_sem,d1];refine⟨hm,⟨_,rfl,rfl⟩,fun y hy=>absurd hy ep,by omega,by simp,⟨_,rfl,rfl⟩,by omega,?_⟩;have ih2:=fun c l j S hk=>ih1 (vars++[[121]]) c l j S (by simp only[ab,aa,aq];omega) hk;simp only[bi,ag,az,encS] at ih2;refine dQ [true] rfl (ih2 (dA n vars c1).2 (1+l) j _ (by rw[aX];exact g _)) ?_;simp -implicitDefEqProofs (disch:=omega) only[go_sem,d1]
   (repeat(with_reducible refine And.intro ?_ ?_;focus first|omega|rfl|assumption|exact⟨_,rfl,rfl⟩|(simp;omega)|(simp;done)))
   refine aQ rfl (uP 8 [121] [(dA n vars c1).1,(dA n (vars++[[121]]) (dA n vars c1).2).1] (by simp only[ag,az,aj.aB,au.aB,am,aw]) (by simp) (.inr rfl)) ?_;simp -implicitDefEqProofs (disch:=omega) only[go_sem,d1];rw[hq];refine⟨rfl,[_,_,_,_,_,_,_],_,_,rfl,rfl,.inl ⟨2,?_,?_⟩,.inl ⟨3,?_,?_⟩⟩<;>simp only[oH,pF,pG,ag,az,aj.aB,oJ,au.aB,encS,am,aw]<;>rfl
  have e8:=h
  with_reducible refine ay (fun hb=> ?_) (fun hb=> ?_)<;>have h:=hb<;>(try simp only[wf_preprocess] at h)<;>simp -implicitDefEqProofs (disch:=omega) only[go_sem,hb,d1]<;>(repeat(with_reducible refine And.intro ?_ ?_;focus first|omega|rfl|assumption|exact⟨_,rfl,rfl⟩|(simp;omega)|(simp;done)))
  ·subst h;simp only[iw,reduceIte,Int.reduceEq,false_or,or_false,or_self,false_and] at hq;refine dQ [true] rfl (ih1 vars c1 (1+l) j _ (by first|omega|(simp only[ab,aa,aq];omega)) (by rw[aX];exact g _)) ?_;simp -implicitDefEqProofs (disch:=omega) only[go_sem,d1];refine dQ [true] rfl (ih1 vars (dA n vars c1).2 (1+l) j _ (by first|omega|(simp only[ab,aa,aq];omega)) (by rw[aX];exact g _)) ?_;simp -implicitDefEqProofs (disch:=omega) only[go_sem,d1];refine dQ [true] rfl (ih1 vars (dA n vars (dA n vars c1).2).2 (1+l) j _ (by first|omega|(simp only[ab,aa,aq];omega)) (by rw[aX];exact g _)) ?_;simp -implicitDefEqProofs (disch:=omega) only[go_sem,d1]
   (repeat(with_reducible refine And.intro ?_ ?_;focus first|omega|rfl|assumption|exact⟨_,rfl,rfl⟩|(simp;omega)|(simp;done)))
   refine aQ rfl (uP 9 [] [(dA n vars c1).1,(dA n vars (dA n vars c1).2).1,(dA n vars (dA n vars (dA n vars c1).2).2).1] (by simp only[ag,az,aj.aB,au.aB,am,aw]) (by simp) (.inr rfl)) ?_;simp -implicitDefEqProofs (disch:=omega) only[go_sem,d1];rw[hq];refine⟨rfl,[_,_,_,_,_,_,_],_,_,rfl,rfl,.inl ⟨1,?_,?_⟩,.inl ⟨2,?_,?_⟩⟩<;>simp only[oH,pF,pG,ag,az,aj.aB,oJ,au.aB,encS,am,aw]<;>rfl
  have e9:=h
  with_reducible refine ay (fun hb=> ?_) (fun hb=> ?_)<;>have h:=hb<;>(try simp only[wf_preprocess] at h)<;>simp -implicitDefEqProofs (disch:=omega) only[go_sem,hb,d1]<;>(repeat(with_reducible refine And.intro ?_ ?_;focus first|omega|rfl|assumption|exact⟨_,rfl,rfl⟩|(simp;omega)|(simp;done)))
  ·subst h;simp only[iw,reduceIte,Int.reduceEq,false_or,or_false,or_self,false_and] at hq;refine dQ [true] rfl (gN hB c1 (1+l) j _ rG (by rw[aX];exact g _) (by decide) (by decide)) ?_;simp -implicitDefEqProofs (disch:=omega) only[go_sem,d1];refine dQ [true] rfl (ih1 vars (bN rG c1).2 (1+l) j _ (by first|omega|(simp only[ab,aa,aq];omega)) (by rw[aX];exact g _)) ?_;simp -implicitDefEqProofs (disch:=omega) only[go_sem,d1];refine dQ [true] rfl (ih1 vars (dA n vars (bN rG c1).2).2 (1+l) j _ (by first|omega|(simp only[ab,aa,aq];omega)) (by rw[aX];exact g _)) ?_;simp -implicitDefEqProofs (disch:=omega) only[go_sem,d1]
   (repeat(with_reducible refine And.intro ?_ ?_;focus first|omega|rfl|assumption|exact⟨_,rfl,rfl⟩|(simp;omega)|(simp;done)))
   refine aQ rfl (uP 10 (bN rG c1).1 [(dA n vars (bN rG c1).2).1,(dA n vars (dA n vars (bN rG c1).2).2).1] (by simp only[ag,az,aj.aB,au.aB,am,aw]) (by simp) (.inr rfl)) ?_;simp -implicitDefEqProofs (disch:=omega) only[go_sem,d1];rw[hq];refine⟨rfl,[_,_,_,_,_,_,_],_,_,rfl,rfl,.inl ⟨1,?_,?_⟩,.inl ⟨2,?_,?_⟩⟩<;>simp only[oH,pF,pG,ag,az,aj.aB,oJ,au.aB,encS,am,aw]<;>rfl
  have e10:=h
  with_reducible refine ay (fun hb=> ?_) (fun hb=> ?_)<;>have h:=hb<;>(try simp only[wf_preprocess] at h)<;>simp -implicitDefEqProofs (disch:=omega) only[go_sem,hb,d1]<;>(repeat(with_reducible refine And.intro ?_ ?_;focus first|omega|rfl|assumption|exact⟨_,rfl,rfl⟩|(simp;omega)|(simp;done)))
  ·subst h;simp only[iw,reduceIte,Int.reduceEq,false_or,or_false,or_self,false_and] at hq;refine dQ [true] rfl (ih1 vars c1 (1+l) j _ (by first|omega|(simp only[ab,aa,aq];omega)) (by rw[aX];exact g _)) ?_;simp -implicitDefEqProofs (disch:=omega) only[go_sem,d1]
   (repeat(with_reducible refine And.intro ?_ ?_;focus first|omega|rfl|assumption|exact⟨_,rfl,rfl⟩|(simp;omega)|(simp;done)))
   rw[hq];refine⟨rfl,[_,_,_,_,_,_,_],_,_,rfl,rfl,.inr ⟨?_,zq _⟩,.inr ⟨rfl,fun e he=>by cases he⟩⟩<;>simp only[oH,pF,pG,ag,az,aj.aB,oJ,au.aB,encS,am,aw]<;>rfl
  have e11:=h
  with_reducible refine ay (fun hb=> ?_) (fun hb=> ?_)<;>have h:=hb<;>(try simp only[wf_preprocess] at h)<;>simp -implicitDefEqProofs (disch:=omega) only[go_sem,hb,d1]<;>(repeat(with_reducible refine And.intro ?_ ?_;focus first|omega|rfl|assumption|exact⟨_,rfl,rfl⟩|(simp;omega)|(simp;done)))
  ·subst h;simp only[iw,reduceIte,Int.reduceEq,false_or,or_false,or_self,false_and] at hq;refine dQ [true] rfl (Gc (acF hB (vars:=aL) (by decide) 1 c1 (1+l) j _ (by rw[aX];exact g _) (by omega))) ?_;simp -implicitDefEqProofs (disch:=omega) only[go_sem,d1];refine dQ [true] rfl (ih1 vars (p9 aL 1 c1).2 (1+l) j _ (by first|omega|(simp only[ab,aa,aq];omega)) (by rw[aX];exact g _)) ?_;simp -implicitDefEqProofs (disch:=omega) only[go_sem,d1]
   (repeat(with_reducible refine And.intro ?_ ?_;focus first|omega|rfl|assumption|exact⟨_,rfl,rfl⟩|(simp;omega)|(simp;done)))
   rw[hq];refine⟨rfl,[_,_,_,_,_,_,_],_,_,rfl,rfl,.inr ⟨?_,zq _⟩,.inr ⟨rfl,fun e he=>by cases he⟩⟩<;>simp only[oH,pF,pG,ag,az,aj.aB,oJ,au.aB,encS,am,aw]<;>rfl
  have e12:=h;simp only[iw,if_neg e1,e2,e3,false_or,or_self,false_and,reduceIte,if_neg e4,if_neg e5,if_neg e6,if_neg e7,if_neg e8,if_neg e9,if_neg e10,if_neg e11,if_neg e12] at hq;have hx2:=fG (n:=20) c1 (by omega);refine aQ rfl (dX hB c1 (1+l) j _ 20 (by rw[aX];exact g _) (by omega) (by omega)) ?_;simp -implicitDefEqProofs (disch:=omega) only[go_sem,d1]
  (repeat(with_reducible refine And.intro ?_ ?_;focus first|omega|rfl|assumption|exact⟨_,rfl,rfl⟩|(simp;omega)|(simp;done)))
  refine aA (ru ((aU 20 c1).1-5)) ?_;simp -implicitDefEqProofs (disch:=omega) only[go_sem,d1];rw[hq];refine⟨rfl,[_,_,_,_,_,_,_],_,_,rfl,rfl,.inr ⟨rfl,fun e he=>by cases he⟩,.inr ⟨rfl,fun e he=>by cases he⟩⟩
end Go.Ab