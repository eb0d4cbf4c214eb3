/-
  SEVERAL TEXTS IN ONE (merged by program): contracts and models, each with its own heading.
-/
import Derived.Test.YtlaaknnkeidlbaaGreatDoorPartDmbF
import Derived.Test.YtlaaknnkeidlbaaGreatDoorPartDmbG
open Go.Proofs Go.Proofs.Tryz
set_option linter.unusedSimpArgs false
set_option linter.unusedVariables false
set_option maxRecDepth 4000
attribute [go_sem] Go.Ab.dW Go.Ab.dJ
namespace Go.Ab
def Ev(x:Int):List D:=[.i .u8 x]
theorem Wn(a:Int):0<=FV .i64 a 255/\FV .i64 a 255<=255:=by
 have h:(BitVec.ofInt IntKind.i64.bits a &&& BitVec.ofInt IntKind.i64.bits 255).toNat<=255:=by
  rw[BitVec.toNat_and];refine Nat.le_trans Nat.and_le_right ?_;decide
 unfold FV;rw[IntWalk.i64_in _ (by omega)];omega
structure Bytes(bs:List Int):Prop where
 len:bs.length<=1048576
 rng:∀x∈bs,0<=x/\x<=255
structure Cu(bs:List Int) where
 i:Int
 h:Int
 lo:0<=i
 hi:i<=bs.length
def cur{bs:List Int}(c:Cu bs):List C:=[.d (.sl (bs.map Ev)),.d (.i .i64 c.i),.d (.i .i64 c.h)]
def hN(h:Int):Int:=IntKind.i64.wrap (IntKind.i64.wrap (h*6364136223846793005)+1442695040888963407)
def LJ(h:Int):Int:=FV .i64 (U3 .i64 (MV .i64 (hN h) 33) (MV .i64 (hN h) 45)) 255
def Dw{bs:List Int}(c:Cu bs):Int×Cu bs:=
 if h:c.i<bs.length then(FV .i64 (LJ c.h+bs.getD c.i.toNat 0) 255,⟨c.i+1,hN c.h,by have:=c.lo;omega,by omega⟩) else(LJ c.h,⟨c.i,hN c.h,c.lo,c.hi⟩)
theorem SB{bs:List Int}(c:Cu bs):0<=(Dw c).1/\(Dw c).1<=255:=by
 unfold Dw;split
 ·exact Wn _
 ·exact Wn _
def bn{bs:List Int}(n:Int)(c:Cu bs):Int×Cu bs:=((Dw c).1.tmod n,(Dw c).2)
theorem jK{bs:List Int}{n:Int}(c:Cu bs)(h:1<=n):0<=(bn n c).1/\(bn n c).1<n:=
 ⟨Int.tmod_nonneg _ (SB c).1,Int.tmod_lt_of_pos _ (by omega)⟩
def d9{bs:List Int}(n:Int)(c:Cu bs):Bool×Cu bs:=(decide ((bn n c).1=0),(bn n c).2)
def bZ{bs:List Int}(xs:List (List UInt8))(c:Cu bs):List UInt8×Cu bs:=(xs.getD (bn xs.length c).1.toNat [],(bn xs.length c).2)
theorem aeV{bs:List Int}{xs:List (List UInt8)}(c:Cu bs)(h:1<=xs.length):(bZ xs c).1∈xs:=by
 have:=jK (n:=xs.length) c (by omega);unfold bZ
 have hi:(bn (xs.length:Int) c).1.toNat<xs.length:=by omega
 simp only[List.getD,List.getElem?_eq_getElem hi,Option.getD_some];exact List.getElem_mem hi
theorem aeW{bs:List Int}(hB:Bytes bs)(c:Cu bs)(l j:Nat)(S:Store)(hk:bE S (l,j)=some (.box (cur c))):
 bX prog 88 [.c (.ptr (l,j) 0)] S (fun r S'=>r=.c (.d (.i .i64 (Dw c).1))/\S'=bG S (l,j) (.box (cur (Dw c).2))):=by
 have h0:0<=LJ c.h/\LJ c.h<=255:=Wn _;have hl:=hB.len;have g:∀x:Ab.Obj,bE (bG S (l,j) x) (l,j)=some x:=fun x=>dL _ _ _ _ hk;obtain⟨i,h,lo,hi⟩:=c;simp only at h0;by_cases hlt:i<bs.length
 ·have hb:=hB.rng (bs[i.toNat]'(by omega)) (List.getElem_mem _);have h1:decide (i<(bs.length:Int))=true:=decide_eq_true hlt
  have e:bs.getD i.toNat 0=bs[i.toNat]'(by omega):=by simp[List.getD,(show i.toNat<bs.length by omega)]
  rw[Dw,dif_pos hlt];simp only[e]
  unfold LJ hN at *
  refine zcx [.tmp 2] func88 ntmps88 ?_;simp -implicitDefEqProofs (disch:=omega) only[go_sem,hk,cur,g,h1,Ev];refine W3 ?_
  all_goals first|exact⟨rfl,rfl⟩|rfl|omega
 ·have h1:decide (i<(bs.length:Int))=false:=decide_eq_false hlt;rw[Dw,dif_neg hlt]
  unfold LJ hN at *
  refine zcx [.tmp 2] func88 ntmps88 ?_;simp -implicitDefEqProofs (disch:=omega) only[go_sem,hk,cur,g,h1,Ev]
  first|done|exact⟨rfl,rfl⟩|rfl
theorem eU{bs:List Int}(hB:Bytes bs)(c:Cu bs)(l j:Nat)(S:Store)(n:Int)(hk:bE S (l,j)=some (.box (cur c)))(h1:1<=n)(h2:n<=256):
 bX prog 37 [.c (.ptr (l,j) 0),.c (.d (.i .i64 n))] S (fun r S'=>r=.c (.d (.i .i64 (bn n c).1))/\S'=bG S (l,j) (.box (cur (bn n c).2))):=by
 have hx:=SB c;have d1:decide (n<=0)=false:=decide_eq_false (by omega);have d2:decide (n<=256)=true:=decide_eq_true h2;refine zcx [.tmp 4] func37 ntmps37 ?_;simp -implicitDefEqProofs (disch:=omega) only[go_sem,d1,d2];refine aW rfl (aeW hB c (1+l) j ([]::S) (by rw[aV];exact hk)) ?_;refine W1 ?_;refine W3 ?_
 first|done|exact⟨rfl,rfl⟩|rfl
theorem ni{bs:List Int}(hB:Bytes bs)(c:Cu bs)(l j:Nat)(S:Store)(n:Int)(hk:bE S (l,j)=some (.box (cur c)))(h1:1<=n)(h2:n<=256):
 bX prog 32 [.c (.ptr (l,j) 0),.c (.d (.i .i64 n))] S (fun r S'=>r=.c (.d (.b (d9 n c).1))/\S'=bG S (l,j) (.box (cur (d9 n c).2))):=by
 refine zcx [.tmp 4] func32 ntmps32 ?_;refine W1 ?_;refine aW rfl (eU hB c (1+l) j ([]::S) n (by rw[aV];exact hk) h1 h2) ?_;refine W1 ?_
 first|done|exact⟨rfl,rfl⟩|rfl
theorem eO{bs:List Int}(hB:Bytes bs)(c:Cu bs)(l j:Nat)(S:Store)(xs:List (List UInt8))(hk:bE S (l,j)=some (.box (cur c)))(h1:1<=xs.length)(h2:xs.length<=256):
 bX prog 76 [.c (.ptr (l,j) 0),.c (.d (.sl (xs.map encS)))] S (fun r S'=>r=.c (.d (.s (bZ xs c).1))/\S'=bG S (l,j) (.box (cur (bZ xs c).2))):=by
 have hx:=jK (n:=xs.length) c (by omega);refine zcx [.tmp 4] func76 ntmps76 ?_;simp -implicitDefEqProofs (disch:=omega) only[go_sem,encS];refine aW rfl (eU hB c (1+l) j ([]::S) xs.length (by rw[aV];exact hk) (by omega) (by omega)) ?_
 have hi:(bn (xs.length:Int) c).1.toNat<xs.length:=by omega
 have e:(bZ xs c).1=xs[(bn (xs.length:Int) c).1.toNat]:=by simp only[bZ,List.getD,List.getElem?_eq_getElem hi,Option.getD_some]
 simp -implicitDefEqProofs (disch:=omega) only[go_sem,encS];refine W3 ?_;rw[e]
 first|done|exact⟨rfl,rfl⟩|rfl
def O6(S:Store)(os:List Obj):Store:=match S with
 |fr::Ω=>(fr++os)::Ω
 |[]=>[]
def Cx(S:Store):Nat:=match S with
 |fr::_=>fr.length
 |[]=>0
def Ew(S:Store):Bool:=match S with
 |_::_=>true
 |[]=>false
theorem O7{fr:List Obj}{Ω:Store}{os:List Obj}:O6 (fr::Ω) os=(fr++os)::Ω:=rfl
theorem wS{fr:List Obj}{Ω:Store}:Cx (fr::Ω)=fr.length:=rfl
theorem YM{fr:List Obj}{Ω:Store}:Ew (fr::Ω)=true:=rfl
theorem abM{k:Key}{x:Obj}:∀{S:Store},Ew (bG S k x)=Ew S
 |[]=>rfl
 |fr::S=>by
  obtain⟨l,j⟩:=k;cases l<;>rfl
theorem ail{k:Key}{x:Obj}:∀{S:Store},Cx (bG S k x)=Cx S
 |[]=>rfl
 |fr::S=>by
  obtain⟨l,j⟩:=k;cases l
  ·show(fr.set j x).length=fr.length
   simp
  ·rfl
def uD(P:Program)(f:FuncId)(args:List V)(S:Store)(raw:V->List Obj->Store->Prop):Prop:=
 Known P f/\∀w σ β vs,fA w σ S β->oM w σ S β args vs->
  Calls P f vs.toArray w fun e w'=>∃v r own S1 bo β1 σ',e=.returned v/\fA w' σ' (own::S1) (bo::β1)/\Keep S β S1 β1/\Step S β σ w (own::S1) (bo::β1) σ' w'/\dM w' σ' (own::S1) (bo::β1) r v/\raw r own S1
def Wo(P:Program)(rs:List ResultVar)(raw:V->List Obj->Store->Prop)(e:Exit)(s:St):Prop:=
 match e with
 | .normal| .ret=>(qO P rs s).1/\match s.st with
   |own::S1=>raw (qO P rs s).2 own S1
   |[]=>False
 |_=>False
section
variable {P:Program} {N:Nat} {s:St} {S:Store}
theorem SC{f:FuncId}{fn:Func}{c:Code}{args:List V}{raw:V->List Obj->Store->Prop}(hf:P.funcs[f]? =some fn)(hb:fn.body=some c)(hn:(fn.name== "runtime.NumGoroutine")=false)
 (hl:args.length<=fn.ntmps)(h:AW P fn.ntmps c (Wo P fn.results.toList raw) ⟨mO (args.map (V.up 1)) 0,[]::S⟩):uD P f args S raw:=by
 refine⟨⟨fn,hf,hn,by simp[hb]⟩,fun w σ β vs hS hargs=> ?_⟩;refine calls_of_wp hf hb ?_;have hlen:vs.length=args.length:=hargs.1.symm
 have Vy:kQ fn.ntmps ⟨mO (args.map (V.up 1)) 0,[]::S⟩ {tmps:=vs.toArray++Array.replicate (fn.ntmps-vs.toArray.size) undef,defers:=[]} w σ ([]::β):=by
  refine⟨by simp;omega,rfl,hS.up1,fun t=> ?_⟩;show dM w σ ([]::S) ([]::β) (look (mO (args.map (V.up 1)) 0) t) _;rw[Dq,if_pos (Nat.zero_le _),Nat.sub_zero,List.getElem?_map]
  cases ha:args[t]? with
  |none=>exact trivial
  |some x=>
   obtain⟨v,hv,hr⟩:=hargs.2 t x ha;have ht:=(List.getElem?_eq_some_iff.1 hv).1
   have:(vs.toArray++Array.replicate (fn.ntmps-vs.toArray.size) undef).getD t undef=v:=by
    rw[Array.getD_eq_getD_getElem?,Array.getElem?_append_left (by simpa using ht)];simp[hv]
   rw[this];exact Lp (S:=[]::S) (β:=[]::β) 1 hr
 refine wp_mono (h _ w σ ([]::β) Vy) ?_;rintro e a' w' ⟨s',σ',β',hR,hst,hkp,hq⟩
 have main:((qO P fn.results.toList s').1/\match s'.st with
  |own::S1=>raw (qO P fn.results.toList s').2 own S1
  |[]=>False)->
   a'.defers=[]/\∃v,(results fn a'.tmps).run P w'=.ok v w'/\∃v1 r own S1 bo β1 σ',Ending.returned v=Ending.returned v1/\fA w' σ' (own::S1) (bo::β1)/\Keep S β S1 β1/\Step S β σ w (own::S1) (bo::β1) σ' w'/\dM w' σ' (own::S1) (bo::β1) r v1/\raw r own S1:=by
  rintro⟨q1,q2⟩;obtain⟨v,hv,hrep⟩:=JR (fn:=fn) hR q1;obtain⟨tm,st⟩:=s';simp only at q2;split at q2
  ·rename_i own S1;obtain⟨bo,β1,rfl,hlo⟩:=frames hR;have hst':Step ([]::S) ([]::β) σ w (own::S1) (bo::β1) σ' w':=hst;exact⟨hR.defers,v,hv,v,_,own,S1,bo,β1,σ',rfl,hR.S,hkp,⟨hst'.size,hst'.os,hst'.output,fun b hb ho=>hst'.far b hb (fun x=>ho (DU x)),hst'.near,fun b hb=>(hst'.own b hb).imp DU id⟩,hrep,q2⟩
  ·exact q2.elim
 cases e with
 |normal=>exact main hq
 |ret=>exact main hq
 |_=>exact hq.elim
def Wp(P:Program)(rs:List ResultVar)(raw:V->List Obj->Store->Prop)(s:St)(r:R):Prop:=r.1/\match s.st with
 |own::S1=>raw r.2 own S1
 |[]=>False
@[congr] theorem ap0 {rs:List ResultVar} {raw:V->List Obj->Store->Prop} {s s':St} {r r':R} (h1:s=s') (h2:r=r'):Wp P rs raw s r=Wp P rs raw s' r':=by rw[h1,h2]
theorem ain{rs:List ResultVar}{raw:V->List Obj->Store->Prop}{tm:List (Nat×V)}{S:Store}:Wo P rs raw .ret ⟨tm,S⟩=Wp P rs raw ⟨tm,S⟩ (qO P rs ⟨tm,S⟩):=rfl
theorem YN{rs:List ResultVar}{raw:V->List Obj->Store->Prop}{tm:List (Nat×V)}{S:Store}:Wo P rs raw .normal ⟨tm,S⟩=Wp P rs raw ⟨tm,S⟩ (qO P rs ⟨tm,S⟩):=rfl
theorem alx{rs:List ResultVar}{raw:V->List Obj->Store->Prop}{tm:List (Nat×V)}{own:List Obj}{S1:Store}{p:Prop}{v:V}:Wp P rs raw ⟨tm,own::S1⟩ (p,v)=(p/\raw v own S1):=rfl
theorem GL{f:FuncId}{fn:Func}{c:Code}{args:List V}{raw:V->List Obj->Store->Prop}{rs:List ResultVar}(gI:P.follows .mixedOrders=true)(hf:P.funcs[f]? =some fn)(hN:fn.ntmps=N)
 (hb:fn.body=some c) (hn:(fn.name== "runtime.NumGoroutine")=false) (hr:fn.results.toList=rs) (hl:Nat.ble args.length N=true) (hok:codeOk N c=true)
 (h:CW P N c (Wo P rs raw) ⟨mO (args.map (V.up 1)) 0,[]::S⟩):uD P f args S raw:=by
 subst hN;subst hr;exact SC hf hb hn (Nat.le_of_ble_eq_true hl) (kE gI c _ _ hok h)
theorem aly(T:List TypeId){f:FuncId}{fn:Func}{c:Code}{args:List V}{raw:V->List Obj->Store->Prop}{rs:List ResultVar}(gI:P.follows .mixedOrders=true)(hf:P.funcs[f]? =some fn)(hN:fn.ntmps=N)
 (hb:fn.body=some c) (hn:(fn.name== "runtime.NumGoroutine")=false) (hr:fn.results.toList=rs) (hl:Nat.ble args.length N=true) (hok:rM T N c=true)
 (h:oK P N T c (Wo P rs raw) ⟨mO (args.map (V.up 1)) 0,[]::S⟩):uD P f args S raw:=by
 subst hN;subst hr;exact SC hf hb hn (Nat.le_of_ble_eq_true hl) (rz gI c _ _ hok h)
theorem uD.mono{f:FuncId}{args:List V}{raw raw':V->List Obj->Store->Prop}(h:uD P f args S raw)(hi:∀r own S1,raw r own S1->raw' r own S1):uD P f args S raw':=
 ⟨h.1,fun w σ β vs hS hv=>(h.2 w σ β vs hS hv).mono fun e w' ⟨v,r,own,S1,bo,β1,σ',q1,q2,q3,q4,q5,q6⟩=>⟨v,r,own,S1,bo,β1,σ',q1,q2,q3,q4,q5,hi _ _ _ q6⟩⟩
end
def Ng(own:List Obj)(x:C)(z:Nat)(es:List (List D)):Prop:=(∃m,own[m]? =some (.tok z es)/\x=.bI (0,m) es)\/(x=.bF es/\∀e∈es,e.length=z)
section
variable {w:World} {σ:Nat->Nat} {own fr:List Obj} {Ω:Store} {bo bf:List Value} {bΩ:Hs}
theorem zf{S1:Store}{β1:Hs}{x:C}{z:Nat}{es:List (List D)}{v:Value}(h:Ng own x z es)(hr:iG w σ (own::S1) (bo::β1) x v):dK w σ (.sl es) v:=by
 rcases h with⟨m,h1,rfl⟩|⟨rfl,_⟩
 ·exact hr.1
 ·exact hr.1
theorem Nh{S1:Store}{β1:Hs}{x:C}{z:Nat}{es:List (List D)}{v:Value}(hS:fA w σ (own::S1) (bo::β1))(h:Ng own x z es)(hr:iG w σ (own::S1) (bo::β1) x v):
 (∀S' β',gZ w σ S' β' (.tok z es) v)/\∀b,owns (.tok z es) v b->∃m,own[m]? =some (.tok z es)/\x=.bI (0,m) es/\bo[m]? =some v:=by
 rcases h with⟨m,h1,rfl⟩|⟨rfl,h2⟩
 ·obtain⟨hd,o,ho,hl⟩:=hr;rw[bK,h1] at ho;cases ho;have hb:=(hl _ _ (.inl rfl)).2 rfl;obtain⟨hv,e1,e2⟩:=hS.obj (0,m) _ (by rw[bK];exact h1);rw[hb] at e1;cases e1;rw[bK] at hb;exact⟨fun _ _=>e2,fun b _=>⟨m,h1,rfl,hb⟩⟩
 ·obtain⟨hd,a,n,rfl⟩:=hr
  have hn:n=es.length:=by cases hd<;>rfl
  subst hn;refine⟨fun _ _=>⟨hd,h2,a,es.length,rfl,Nat.le_refl _,.inl rfl⟩,fun b hb=> ?_⟩
  cases a with
  |none=>cases hb
  |some a=>simp[owns,blk] at hb
end
def Ey(cs:List C):Bool:=cs.all fun c=>match c with
 | .d _=>true
 |_=>false
theorem O8{w:World}{σ:Nat->Nat}{S S':Store}{β β':Hs}{c:C}{v:Value}(h:(match c with
 | .d _=>true
 |_=>false)=true) (hr:iG w σ S β c v):iG w σ S' β' c v:=by
 cases c<;>first|exact hr|(cases h;done)
theorem Mw{w:World}{σ:Nat->Nat}{S S':Store}{β β':Hs}{pre post:List C}{x x':C}{a:List Value}(h1:Ey pre=true)(h2:Ey post=true)(hr:gu w σ S β (pre++x::post) a)
 (hx:∀v,a[pre.length]? =some v->iG w σ S β x v->iG w σ S' β' x' v):gu w σ S' β' (pre++x'::post) a:=by
 refine⟨by simpa using hr.1,fun j y hy=> ?_⟩;rcases Nat.lt_trichotomy j pre.length with hj|hj|hj
 ·rw[List.getElem?_append_left hj] at hy;obtain⟨v,e1,e2,e3⟩:=hr.2 j y (by rw[List.getElem?_append_left hj];exact hy);exact⟨v,e1,O8 (List.all_eq_true.1 h1 y (List.mem_of_getElem? hy)) e2,e3⟩
 ·subst hj;rw[List.getElem?_append_right (Nat.le_refl _),Nat.sub_self,List.getElem?_cons_zero] at hy;cases hy;obtain⟨v,e1,e2,e3⟩:=hr.2 pre.length x (by rw[List.getElem?_append_right (Nat.le_refl _),Nat.sub_self];rfl);exact⟨v,e1,hx v e1 e2,e3⟩
 ·rw[List.getElem?_append_right (by omega),show j-pre.length=(j-pre.length-1)+1 by omega,List.getElem?_cons_succ] at hy;obtain⟨v,e1,e2,e3⟩:=hr.2 j y (by rw[List.getElem?_append_right (by omega),show j-pre.length=(j-pre.length-1)+1 by omega,List.getElem?_cons_succ];exact hy);exact⟨v,e1,O8 (List.all_eq_true.1 h2 y (List.mem_of_getElem? hy)) e2,e3⟩
section
variable {P:Program} {S S':Store} {f:FuncId} {args:List V}
theorem uD.plain{pre post:List C}{z:Nat}{es:List (List D)}(h1:Ey pre=true)(h2:Ey post=true)(h:uD P f args S fun r own S1=>S1=S'/\∃x,r=.agg (pre++x::post)/\Ng own x z es):
 bX P f args S fun r S1=>r=.agg (pre++ .d (.sl es)::post)/\S1=S':=by
 refine⟨h.1,fun w σ β vs hS hv=>(h.2 w σ β vs hS hv).mono fun e w' ⟨v,r,own,S1,bo,β1,σ',q1,q2,q3,q4,q5,q6,x,q7,q8⟩=> ?_⟩;subst q6 q7;obtain⟨a,rfl,hc⟩:=q5;exact⟨_,.agg (pre++ .d (.sl es)::post),S1,σ',β1,q1,q2.Lr,q3,⟨q4.size,q4.os,q4.output,q4.far,q4.near,fun b hb=>q4.own b (y8 hb)⟩,⟨a,rfl,Mw h1 h2 hc fun v e1 e2=>zf q8 e2⟩,rfl,rfl⟩
theorem uD.push{pre post:List C}{z:Nat}{es:List (List D)}(h1:Ey pre=true)(h2:Ey post=true)(ht:Ew S'=true)(h:uD P f args S fun r own S1=>S1=S'/\∃x,r=.agg (pre++x::post)/\Ng own x z es):
 bX P f args S fun r S1=>r=.agg (pre++ .bI (0,Cx S') es::post)/\S1=O6 S' [.tok z es]:=by
 refine⟨h.1,fun w σ β vs hS hv=>(h.2 w σ β vs hS hv).mono fun e w' ⟨v,r,own,S1,bo,β1,σ',q1,q2,q3,q4,q5,q6,x,q7,q8⟩=> ?_⟩;subst q6 q7;obtain⟨a,rfl,hc⟩:=q5;obtain⟨u,e1,e2,e3⟩:=hc.2 pre.length x (by rw[List.getElem?_append_right (Nat.le_refl _),Nat.sub_self];rfl);obtain⟨k1,k2⟩:=Nh q2 q8 e2
 cases S1 with
 |nil=>cases ht
 |cons fr Ω=>
 have hd:=q2.Lr
 obtain⟨bf,bΩ,rfl,hlen⟩:∃bf bΩ,β1=bf::bΩ/\bf.length=fr.length:=by
  cases β1 with
  |nil=>have:=hd.shape.1;simp at this
  |cons bf bΩ=>
   refine⟨bf,bΩ,rfl,?_⟩;obtain⟨gr,q1,q2⟩:=hd.shape.2 0 fr rfl;simp at q1;rw[q1];exact q2
 obtain⟨l1,l2,l3⟩:=hd.lay (o:=.tok z es) (h:=u) hlen (k1 _ _) fun b hb ⟨k,o,hh,f1,f2,f3⟩=>by
  obtain⟨m,g1,g2,g3⟩:=k2 b hb;have:=q2.apart (0,m) (k.1+1,k.2) _ o u hh b (by rw[bK];exact g1) (by rw[bK];exact g3) hb (by rw[cZ];exact f1) (by rw[cZ];exact f2) f3;cases this
 refine⟨_,.agg (pre++ .bI (0,Cx (fr::Ω)) es::post),_,σ',_,q1,l1,q3.trans l2,⟨q4.size,q4.os,q4.output,q4.far,q4.near,fun b hb=> ?_⟩,⟨a,rfl,Mw h1 h2 hc fun v f1 f2=> ?_⟩,rfl,rfl⟩
 ·rcases l3 b hb with q|q
  ·exact q4.own b (y8 q)
  ·obtain⟨m,g1,g2,g3⟩:=k2 b q;exact q4.own b ⟨(0,m),_,u,by rw[bK];exact g1,by rw[bK];exact g3,q⟩
 ·rw[e1] at f1;cases f1;refine⟨zf q8 e2,_,by rw[wS];exact cu _ _ _,fun bg es' e=> ?_⟩;obtain⟨_,rfl⟩:=lT (lab:=none) e;exact⟨Nat.le_refl _,fun _=>by rw[wS,<-hlen,cu]⟩
end
attribute [go_sem ↓] ain YN
attribute [go_sem] alx O7 wS YM abM ail
def qP(s:List UInt8):ak:=.mk 1 s []
def uY(s:List UInt8)(l:List ak):ak:=.mk 2 s l
def Fy(s:List UInt8)(t:ak):ak:=.mk 3 s [t]
def aio(s:List UInt8):ak:=.mk 4 s []
def Iy:List (List UInt8):=[[105,110,116],[98,111,111,108],[117,110,105,116]]
def Fz:List (List UInt8):=[[108,105,115,116],[108,105,115,116],[98,111,120]]
def mV{bs:List Int}(vars:List (List UInt8)):Nat->Cu bs->ak×Cu bs
 |0,c=>if(bn 8 c).1<3/\0<vars.length then(qP (bZ vars (bn 8 c).2).1,(bZ vars (bn 8 c).2).2)
  else(uY (bZ Iy (bn 8 c).2).1 [],(bZ Iy (bn 8 c).2).2)
 |n+1,c=>if(bn 8 c).1<3/\0<vars.length then(qP (bZ vars (bn 8 c).2).1,(bZ vars (bn 8 c).2).2)
  else if(bn 8 c).1<5 then(uY (bZ Iy (bn 8 c).2).1 [],(bZ Iy (bn 8 c).2).2)
  else if(bn 8 c).1=5 then(uY [112,97,105,114] [(mV vars n (bn 8 c).2).1,(mV vars n (mV vars n (bn 8 c).2).2).1],(mV vars n (mV vars n (bn 8 c).2).2).2)
  else(uY (bZ Fz (bn 8 c).2).1 [(mV vars n (bZ Fz (bn 8 c).2).2).1],(mV vars n (bZ Fz (bn 8 c).2).2).2)
def fI(l:List (List UInt8)):Prop:=∀s∈l,s.length<=8
theorem iC{bs:List Int}{xs:List (List UInt8)}(c:Cu bs)(h:fI xs):(bZ xs c).1.length<=8:=by
 by_cases h1:1<=xs.length
 ·exact h _ (aeV c h1)
 ·have:xs=[]:=List.eq_nil_of_length_eq_zero (by omega);subst this;simp[bZ]
theorem O9:fI Iy:=by unfold fI;decide
theorem short_list:fI Fz:=by unfold fI;decide
theorem qJ(s:List UInt8):(qP s).sz=s.length:=by simp[qP,ak.sz,ak.aJ,bQ,D.sz,aP,ak.fName,ak.fArgs]
theorem Rp(s:List UInt8):(uY s []).sz=s.length:=by simp[uY,ak.sz,ak.aJ,bQ,D.sz,aP,ak.fName,ak.fArgs]
theorem LK(s:List UInt8)(t:ak):(uY s [t]).sz=s.length+1+t.sz:=by
 have:=ak.dP t;simp only[uY,ak.sz,ak.aJ,bQ,D.sz,aP,ak.fName,ak.fArgs,List.map_cons,List.map_nil,List.length_cons,List.length_nil] at this ⊢;omega
theorem ZQ(s:List UInt8)(t u:ak):(uY s [t,u]).sz=s.length+2+t.sz+u.sz:=by
 have h1:=ak.dP t;have h2:=ak.dP u;simp only[uY,ak.sz,ak.aJ,bQ,D.sz,aP,ak.fName,ak.fArgs,List.map_cons,List.map_nil,List.length_cons,List.length_nil] at h1 h2 ⊢;omega
theorem J8{bs:List Int}{vars:List (List UInt8)}(hv:fI vars):∀(n:Nat)(c:Cu bs),(mV vars n c).1.sz+10<=18*2^n
 |0,c=>by
  rw[mV];split
  ·have:=iC (bn 8 c).2 hv;simp only[qJ];omega
  ·have:=iC (bn 8 c).2 O9;simp only[Rp];omega
 |n+1,c=>by
  have ih:=J8 hv n (bs:=bs)
  have hp:2^ (n+1)=2^n+2^n:=by rw[Nat.pow_succ];omega
  have h2:=Nat.one_le_two_pow (n:=n);rw[mV];split
  ·have:=iC (bn 8 c).2 hv;simp only[qJ];omega
  split
  ·have:=iC (bn 8 c).2 O9;simp only[Rp];omega
  split
  ·have h3:=ih (bn 8 c).2;have h4:=ih (mV vars n (bn 8 c).2).2;simp only[ZQ,List.length_cons,List.length_nil];omega
  ·have h3:=ih (bZ Fz (bn 8 c).2).2;have:=iC (bn 8 c).2 short_list;simp only[LK];omega
def tyP(t:ak):List C:=[.d (.i .i64 t.aM),.d (.s t.fName)]
theorem SE(t:ak):Ey (tyP t)=true:=rfl
def Pb(t:ak)(S':Store)(r:V)(own:List Obj)(S1:Store):Prop:=S1=S'/\∃x,r=.agg (tyP t++x::[])/\Ng own x 3 (t.fArgs.map ak.enc)
theorem Wq(l:List ak):∀y∈l.map ak.enc,y.length=3:=by
 intro y hy;obtain⟨x,_,rfl⟩:=List.mem_map.1 hy;rw[ak.aJ];rfl
theorem gK(s:List UInt8):aF prog 175 [.c (.d (.s s))] (.agg [.d (.i .i64 1),.d (.s s),.bF []]):=fun S=>by
 refine zcx [.cell 2 26] func175 ntmps175 ?_;exact Z1
 first|done|exact⟨rfl,rfl⟩|rfl
theorem SF(s:List UInt8)(l:List ak){es:List (List D)}(he:es=l.map ak.enc)(hl:l.length<=1048576){a:C}(ha:a=.d (.sl es)\/a=.bF es)(S:Store):uD prog 176 [.c (.d (.s s)),.c a] S (Pb (uY s l) S):=by
 subst he;refine GL (rs:=[.cell 4 26]) zmx func176 ntmps176 rfl rfl rfl rfl rfl ?_;have hln:=Wq l;rcases ha with rfl|rfl
 all_goals
  refine W1 ?_;refine⟨hln,⟨_,rfl,rfl⟩,fun y hy=>absurd hy List.not_mem_nil,by omega,rfl,_,rfl,.inl ⟨1,rfl,rfl⟩⟩
theorem vU{f:FuncId}{args:List V}{S S':Store}{t:ak}(h:uD prog f args S (Pb t S')):bX prog f args S (fun r S1=>r=.agg [.d (.i .i64 t.aM),.d (.s t.fName),.d (.sl (t.fArgs.map ak.enc))]/\S1=S'):=
 uD.plain (SE t) rfl h
theorem Pf{f:FuncId}{args:List V}{S S':Store}{t:ak}(ht:Ew S'=true)(h:uD prog f args S (Pb t S')):
 bX prog f args S (fun r S1=>r=.agg [.d (.i .i64 t.aM),.d (.s t.fName),.bI (0,Cx S') (t.fArgs.map ak.enc)]/\S1=O6 S' [.tok 3 (t.fArgs.map ak.enc)]):=
 uD.push (SE t) rfl ht h
theorem zX(s:List UInt8)(l:List ak){es:List (List D)}(he:es=l.map ak.enc)(hl:l.length<=1048576){a:C}(ha:a=.d (.sl es)\/a=.bF es){own:List Ab.Obj}{Ω:Store}:
 bX prog 176 [.c (.d (.s s)),.c a] (own::Ω) (fun r S1=>r=.agg [.d (.i .i64 2),.d (.s s),.bI (0,own.length) es]/\S1=(own++[.tok 3 es])::Ω):=by
 have:=Pf (S':=own::Ω) rfl (SF s l he hl ha (own::Ω));rw[he];exact this
theorem yN(s:List UInt8)(l:List ak){es:List (List D)}(he:es=l.map ak.enc)(hl:l.length<=1048576){a:C}(ha:a=.d (.sl es)\/a=.bF es):aF prog 176 [.c (.d (.s s)),.c a] (.agg [.d (.i .i64 2),.d (.s s),.d (.sl es)]):=fun S=>by
 have:=vU (SF s l he hl ha S);rw[he];exact this
theorem Ws{bs:List Int}{xs:List (List UInt8)}(c:Cu bs)(hi:(bn (xs.length:Int) c).1.toNat<xs.length):xs[(bn (xs.length:Int) c).1.toNat]=(bZ xs c).1:=by
 simp only[bZ,List.getD,List.getElem?_eq_getElem hi,Option.getD_some]
theorem Iz{bs:List Int}(hB:Bytes bs){vars:List (List UInt8)}(hv:vars.length<=256):∀(n:Nat)(c:Cu bs)(l j:Nat)(S:Store),bE S (l,j)=some (.box (cur c))->n<=1048576->
 uD prog 87 [.c (.ptr (l,j) 0),.c (.d (.sl (vars.map encS))),.c (.d (.i .i64 n))] S (Pb (mV vars n c).1 (bG S (l,j) (.box (cur (mV vars n c).2)))):=by
 intro n
 induction n with
 |zero=>
  intro c l j S hk hn;have g:∀x:Ab.Obj,bE (bG S (l,j) x) (l,j)=some x:=fun x=>dL _ _ _ _ hk;obtain⟨k,hkd⟩:∃k,k=(bn 8 c).1:=⟨_,rfl⟩;obtain⟨c1,hc1⟩:∃c1,c1=(bn 8 c).2:=⟨_,rfl⟩;rw[mV,<-hkd,<-hc1];refine GL (rs:=[.cell 6 26]) zmx func87 ntmps87 rfl rfl rfl rfl rfl ?_;refine W1 ?_;refine aW rfl (eU hB c (1+l) j _ 8 (by rw[aV];exact hk) (by omega) (by omega)) ?_;rw[<-hkd,<-hc1];have d0:decide (((0:Nat):Int)<=0)=true:=rfl;refine W1 ?_
  with_reducible refine dS (fun hb=> ?_) (fun hb=> ?_)<;>have h:=hb<;>(try simp only[wf_preprocess] at h)<;>simp -implicitDefEqProofs (disch:=omega) only[go_sem,hb,d0]<;>refine W3 ?_
  rotate_left
  rw[if_neg (by omega)]
  rotate_left
  with_reducible refine dS (fun hb=> ?_) (fun hb=> ?_)<;>have h:=hb<;>(try simp only[wf_preprocess] at h)<;>simp -implicitDefEqProofs (disch:=omega) only[go_sem,hb,d0]<;>refine W3 ?_
  ·have hx:=jK (n:=vars.length) c1 (by omega)
   have hi:(bn (vars.length:Int) c1).1.toNat<vars.length:=by omega
   rw[if_pos ⟨by omega,by omega⟩];refine aW rfl (eU hB c1 (1+l) j _ vars.length (by rw[aV];exact g _) (by omega) (by omega)) ?_;simp -implicitDefEqProofs (disch:=omega) only[go_sem,encS];refine W3 ?_;rw[Ws c1 hi];refine C2 (gK (bZ vars c1).1) ?_;exact⟨rfl,_,rfl,.inr ⟨rfl,fun e he=>by cases he⟩⟩
  rw[if_neg (by omega)]
  all_goals with_reducible refine dS (fun hb=> ?_) (fun hb=> ?_)<;>have h:=hb<;>(try simp only[wf_preprocess] at h)<;>simp -implicitDefEqProofs (disch:=omega) only[go_sem,hb,d0]<;>refine W3 ?_
  all_goals
   refine cK [true] rfl (eO hB c1 (1+l) j _ Iy (by rw[aV];exact g _) (by decide) (by decide)) ?_;refine W1 ?_;refine aW rfl (zX _ [] rfl (Nat.zero_le _) (.inr rfl)) ?_;refine W1 ?_;exact⟨rfl,_,rfl,.inl ⟨1,rfl,rfl⟩⟩
 |succ n ih=>
  intro c l j S hk hn;have g:∀x:Ab.Obj,bE (bG S (l,j) x) (l,j)=some x:=fun x=>dL _ _ _ _ hk;obtain⟨k,hkd⟩:∃k,k=(bn 8 c).1:=⟨_,rfl⟩;obtain⟨c1,hc1⟩:∃c1,c1=(bn 8 c).2:=⟨_,rfl⟩;have ih1:=fun c l j S hk=>vU (ih c l j S hk (by omega));rw[mV,<-hkd,<-hc1];refine GL (rs:=[.cell 6 26]) zmx func87 ntmps87 rfl rfl rfl rfl rfl ?_;refine W1 ?_;refine aW rfl (eU hB c (1+l) j _ 8 (by rw[aV];exact hk) (by omega) (by omega)) ?_;rw[<-hkd,<-hc1];have d0:decide (((n+1:Nat):Int)<=0)=false:=decide_eq_false (by omega)
  have d1:((n+1:Nat):Int)-1=(n:Int):=by omega
  refine W1 ?_
  with_reducible refine dS (fun hb=> ?_) (fun hb=> ?_)<;>have h:=hb<;>(try simp only[wf_preprocess] at h)<;>simp -implicitDefEqProofs (disch:=omega) only[go_sem,hb,d0]<;>refine W3 ?_
  rotate_left
  rw[if_neg (by omega)]
  rotate_left
  with_reducible refine dS (fun hb=> ?_) (fun hb=> ?_)<;>have h:=hb<;>(try simp only[wf_preprocess] at h)<;>simp -implicitDefEqProofs (disch:=omega) only[go_sem,hb,d0]<;>refine W3 ?_
  ·have hx:=jK (n:=vars.length) c1 (by omega)
   have hi:(bn (vars.length:Int) c1).1.toNat<vars.length:=by omega
   rw[if_pos ⟨by omega,by omega⟩];refine aW rfl (eU hB c1 (1+l) j _ vars.length (by rw[aV];exact g _) (by omega) (by omega)) ?_;simp -implicitDefEqProofs (disch:=omega) only[go_sem,encS];refine W3 ?_;rw[Ws c1 hi];refine C2 (gK (bZ vars c1).1) ?_;exact⟨rfl,_,rfl,.inr ⟨rfl,fun e he=>by cases he⟩⟩
  rw[if_neg (by omega)]
  all_goals
   with_reducible refine dS (fun hb=> ?_) (fun hb=> ?_)<;>have h:=hb<;>(try simp only[wf_preprocess] at h)<;>simp -implicitDefEqProofs (disch:=omega) only[go_sem,hb,d0]<;>refine W3 ?_
   ·rw[if_pos (by omega)];refine cK [true] rfl (eO hB c1 (1+l) j _ Iy (by rw[aV];exact g _) (by decide) (by decide)) ?_;refine W1 ?_;refine aW rfl (zX _ [] rfl (Nat.zero_le _) (.inr rfl)) ?_;refine W1 ?_;exact⟨rfl,_,rfl,.inl ⟨1,rfl,rfl⟩⟩
   rw[if_neg (by omega)]
   with_reducible refine dS (fun hb=> ?_) (fun hb=> ?_)<;>have h:=hb<;>(try simp only[wf_preprocess] at h)<;>simp -implicitDefEqProofs (disch:=omega) only[go_sem,hb,d1]<;>refine W3 ?_
   ·rw[if_pos (by omega)];refine aW rfl (ih1 c1 (1+l) j _ (by rw[aV];exact g _)) ?_;simp -implicitDefEqProofs (disch:=omega) only[go_sem,d1];refine aW rfl (ih1 (mV vars n c1).2 (1+l) j _ (by rw[aV];exact g _)) ?_;refine W1 ?_;refine W3 ?_;refine aW rfl (zX _ [(mV vars n c1).1,(mV vars n (mV vars n c1).2).1] (by simp only[List.map_cons,List.map_nil,ak.aJ]) (by simp) (.inr rfl)) ?_;refine W1 ?_;refine⟨rfl,_,rfl,.inl ⟨1,?_,?_⟩⟩<;>simp only[uY,ak.fArgs,List.map_cons,List.map_nil,ak.aJ]<;>rfl
   ·rw[if_neg (by omega)];refine cK [true] rfl (eO hB c1 (1+l) j _ Fz (by rw[aV];exact g _) (by decide) (by decide)) ?_;simp -implicitDefEqProofs (disch:=omega) only[go_sem,d1];refine aW rfl (ih1 (bZ Fz c1).2 (1+l) j _ (by rw[aV];exact g _)) ?_;refine W1 ?_;refine W3 ?_;refine aW rfl (zX _ [(mV vars n (bZ Fz c1).2).1] (by simp only[List.map_cons,List.map_nil,ak.aJ]) (by simp) (.inr rfl)) ?_;refine W1 ?_;refine⟨rfl,_,rfl,.inl ⟨1,?_,?_⟩⟩<;>simp only[uY,ak.fArgs,List.map_cons,List.map_nil,ak.aJ]<;>rfl
def Jp:List (List UInt8):=[[97],[98]]
def J9:List (List UInt8):=[[97,100,100],[115,104,111,119]]
theorem Ni:fI Jp:=by unfold fI;decide
theorem YO:fI J9:=by unfold fI;decide
def abO{bs:List Int}(t:ak)(c:Cu bs):ak×Cu bs:=
 if(bn 8 c).1=0 then(Fy (bZ J9 (bn 8 c).2).1 t,(bZ J9 (bn 8 c).2).2) else
 if(bn 8 c).1=1 then(uY [108,105,115,116] [Fy [97,100,100] t],(bn 8 c).2) else
 if(bn 8 c).1=2 then(aio [115,104,111,119],(bn 8 c).2) else(t,(bn 8 c).2)
def sM{bs:List Int}(n:Nat)(c:Cu bs):ak×Cu bs:=abO (mV Jp n c).1 (mV Jp n c).2
def uZ:ak:=uY [105,110,116] []
theorem ZR(s:List UInt8)(t:ak):(Fy s t).sz=s.length+1+t.sz:=by
 have:=ak.dP t;simp only[Fy,ak.sz,ak.aJ,bQ,D.sz,aP,ak.fName,ak.fArgs,List.map_cons,List.map_nil,List.length_cons,List.length_nil] at this ⊢;omega
theorem anK(s:List UInt8):(aio s).sz=s.length:=by simp[aio,ak.sz,ak.aJ,bQ,D.sz,aP,ak.fName,ak.fArgs]
theorem Ez{bs:List Int}(n:Nat)(c:Cu bs):(sM n c).1.sz<=18*2^n+10:=by
 have h:=J8 Ni n c;unfold sM abO;split
 ·have:=iC (bn 8 (mV Jp n c).2).2 YO;simp only[ZR];omega
 split
 ·simp only[LK,ZR,List.length_cons,List.length_nil];omega
 split
 ·simp only[anK,List.length_cons,List.length_nil];omega
 ·show(mV Jp n c).1.sz<=_;omega
theorem SG(s:List UInt8)(t:ak)(h:t.sz<=4194304):aF prog 248 [.c (.d (.s s)),t.v] (.agg [.d (.i .i64 3),.d (.s s),.bF ([t].map ak.enc)]):=fun S=>by
 refine zcx [.cell 4 26] func248 ntmps248 ?_;refine W1 ?_;exact C4 (aeU t h)
theorem kG:aF prog 201 [] uZ.v:=fun S=>by
 refine zcx [.cell 0 26] func201 ntmps201 ?_;refine W1 ?_;refine C1 (yN [105,110,116] [] rfl (Nat.zero_le _) (.inl rfl)) ?_
 first|done|exact⟨rfl,rfl⟩|rfl
theorem abP{bs:List Int}(hB:Bytes bs)(n:Nat)(c:Cu bs)(l j:Nat)(S:Store)(hk:bE S (l,j)=some (.box (cur c)))(hn:n<=16):
 uD prog 202 [.c (.ptr (l,j) 0),.c (.d (.i .i64 n))] S (Pb (sM n c).1 (bG S (l,j) (.box (cur (sM n c).2)))):=by
 have g:∀x:Ab.Obj,bE (bG S (l,j) x) (l,j)=some x:=fun x=>dL _ _ _ _ hk;unfold sM;obtain⟨t,ht⟩:∃t,t=(mV Jp n c).1:=⟨_,rfl⟩;obtain⟨c1,hc1⟩:∃c1,c1=(mV Jp n c).2:=⟨_,rfl⟩
 have hsz:t.sz<=4194304:=by
  have:=J8 Ni n c;have h2:2^n<=2^16:=Nat.pow_le_pow_right (by omega) hn;rw[ht];omega
 rw[<-ht,<-hc1];unfold abO;obtain⟨k,hkd⟩:∃k,k=(bn 8 c1).1:=⟨_,rfl⟩;obtain⟨c2,hc2⟩:∃c2,c2=(bn 8 c1).2:=⟨_,rfl⟩;rw[<-hkd,<-hc2];refine aly [58] (rs:=[.cell 4 26]) zmx func202 ntmps202 rfl rfl rfl rfl rfl ?_;refine W1 ?_
 have h1:=Pf (S':=[.box [.d (.i .i64 0),.d (.s []),.bF []]]::bG S (l,j) (.box (cur (mV Jp n c).2))) rfl (by
  have:=Iz hB (vars:=Jp) (by decide) n c (1+l) j ([.box [.d (.i .i64 0),.d (.s []),.bF []]]::S) (by rw[aV];exact hk) (by omega);rw[dW] at this
  exact this)
 rw[<-ht,<-hc1] at h1;refine cK [true] rfl h1 ?_;refine W1 ?_;refine aW rfl (eU hB c1 (1+l) j _ 8 (by rw[aV];exact g _) (by omega) (by omega)) ?_;rw[<-hkd,<-hc2];refine W1 ?_;refine S0 (fun hb h=>?_) fun hb h=>?_
 ·rw[if_pos h];refine cK [true] rfl (eO hB c2 (1+l) j _ J9 (by rw[aV];exact g _) (by decide) (by decide)) ?_;refine W1 ?_;refine C1 (SG (bZ J9 c2).1 t hsz) ?_;refine⟨by cases l<;>rfl,?_⟩;refine W1 ?_;exact⟨rfl,_,rfl,.inr ⟨by simp[Fy,ak.fArgs,ak.aJ],Wq [t]⟩⟩
 rw[if_neg h];refine S0 (fun hb h=>?_) fun hb h=>?_
 ·rw[if_pos h];refine C1 (SG [97,100,100] t hsz) ?_;refine W3 ?_;refine aW rfl (zX _ [Fy [97,100,100] t] (by simp[Fy,ak.aJ,ak.aM,ak.fName,ak.fArgs]) (by simp) (.inr rfl)) ?_;refine W1 ?_;refine⟨rfl,_,rfl,.inl ⟨3,?_,?_⟩⟩<;>simp[uY,Fy,ak.aJ,ak.aM,ak.fName,ak.fArgs]
 rw[if_neg h];refine S0 (fun hb h=>?_) fun hb h=>?_
 ·rw[if_pos h];exact⟨rfl,_,rfl,.inr ⟨rfl,fun e he=>by cases he⟩⟩
 rw[if_neg h];exact⟨rfl,_,rfl,.inl ⟨1,rfl,rfl⟩⟩
theorem jq{bs:List Int}(hB:Bytes bs)(n:Nat)(c:Cu bs)(l j:Nat)(S:Store)(hk:bE S (l,j)=some (.box (cur c)))(hn:n<=16):
 bX prog 202 [.c (.ptr (l,j) 0),.c (.d (.i .i64 n))] S (fun r S1=>r=(sM n c).1.v/\S1=bG S (l,j) (.box (cur (sM n c).2))):=
 vU (abP hB n c l j S hk hn)
section
variable {w:World} {σ:Nat->Nat}
def UK:C->Option D
 | .d d=>some d
 | .bF es=>some (.sl es)
 | .bI _ es=>some (.sl es)
 |_=>none
theorem aeX{S S':Store}{β β':Hs}{c:C}{d:D}{v:Value}(h:UK c=some d)(hr:iG w σ S β c v):iG w σ S' β' (.d d) v:=by
 cases c<;>simp only[UK,Option.some.injEq] at h<;>first|(cases h;done)|(subst h;first|exact hr|exact hr.1)
theorem Ka{S S':Store}{β β':Hs}{pre:List C}{ds:List D}{x x' y y':C}{a:List Value}(h1:pre.map UK=ds.map some)(hr:gu w σ S β (pre++[x,y]) a)
 (hx:∀v,a[pre.length]? =some v->iG w σ S β x v->iG w σ S' β' x' v)(hy:∀v,a[pre.length+1]? =some v->iG w σ S β y v->iG w σ S' β' y' v):gu w σ S' β' (ds.map .d++[x',y']) a:=by
 have hl:pre.length=ds.length:=by have:=congrArg List.length h1;simpa using this
 refine⟨by have:=hr.1;simp only[List.length_append,List.length_map,List.length_cons,List.length_nil,hl] at this ⊢;exact this,fun j c hc=> ?_⟩;rcases Nat.lt_or_ge j pre.length with hj|hj
 ·rw[List.getElem?_append_left (by simp;omega),List.getElem?_map] at hc;obtain⟨d,hd,rfl⟩:=Option.map_eq_some_iff.1 hc;have hp:=congrArg (fun l=>l[j]?) h1;simp only[List.getElem?_map,hd,Option.map_some,List.getElem?_eq_getElem hj] at hp;obtain⟨v,e1,e2,e3⟩:=hr.2 j pre[j] (by rw[List.getElem?_append_left hj,List.getElem?_eq_getElem hj]);exact⟨v,e1,aeX (Option.some.inj hp) e2,e3⟩
 obtain⟨k,rfl⟩:∃k,j=pre.length+k:=⟨j-pre.length,by omega⟩;rw[List.getElem?_append_right (by simp;omega),List.length_map,<-hl,Nat.add_sub_cancel_left] at hc
 match k,hc with
 |0,hc=>
  cases hc;obtain⟨v,e1,e2,e3⟩:=hr.2 pre.length x (by rw[List.getElem?_append_right (Nat.le_refl _),Nat.sub_self];rfl);exact⟨v,e1,hx v e1 e2,e3⟩
 |1,hc=>
  cases hc;obtain⟨v,e1,e2,e3⟩:=hr.2 (pre.length+1) y (by rw[List.getElem?_append_right (by omega),Nat.add_sub_cancel_left];rfl);exact⟨v,e1,hy v e1 e2,e3⟩
 |k+2,hc=>simp at hc
end
section
variable {P:Program} {S S':Store} {f:FuncId} {args:List V}
def Two(ds:List D)(z z':Nat)(es es':List (List D))(S':Store)(r:V)(own:List Obj)(S1:Store):Prop:=S1=S'/\∃pre x y,r=.agg (pre++[x,y])/\pre.map UK=ds.map some/\Ng own x z es/\Ng own y z' es'
theorem uD.anL{ds:List D}{z z':Nat}{es es':List (List D)}(h:uD P f args S (Two ds z z' es es' S')):
 bX P f args S fun r S1=>r=.agg (ds.map .d++[.d (.sl es),.d (.sl es')])/\S1=S':=by
 refine⟨h.1,fun w σ β vs hS hv=>(h.2 w σ β vs hS hv).mono fun e w' ⟨v,r,own,S1,bo,β1,σ',q1,q2,q3,q4,q5,q6,pre,x,y,q7,h1,q8,q9⟩=> ?_⟩;subst q6 q7;obtain⟨a,rfl,hc⟩:=q5;exact⟨_,.agg (ds.map .d++[.d (.sl es),.d (.sl es')]),S1,σ',β1,q1,q2.Lr,q3,⟨q4.size,q4.os,q4.output,q4.far,q4.near,fun b hb=>q4.own b (y8 hb)⟩,⟨a,rfl,Ka (x':=.d (.sl es)) (y':=.d (.sl es')) h1 hc (fun v e1 e2=>zf q8 e2) (fun v e1 e2=>zf q9 e2)⟩,rfl,rfl⟩
theorem uD.ap2{ds:List D}{z z':Nat}{es es':List (List D)}(hz:z≠z')(ht:Ew S'=true)(h:uD P f args S (Two ds z z' es es' S')):
 bX P f args S fun r S1=>r=.agg (ds.map .d++[.bI (0,Cx S') es,.bI (0,Cx S'+1) es'])/\S1=O6 S' [.tok z es,.tok z' es']:=by
 refine⟨h.1,fun w σ β vs hS hv=>(h.2 w σ β vs hS hv).mono fun e w' ⟨v,r,own,S1,bo,β1,σ',q1,q2,q3,q4,q5,q6,pre,x,y,q7,h1,q8,q9⟩=> ?_⟩;subst q6 q7;obtain⟨a,rfl,hc⟩:=q5;obtain⟨u,e1,e2,e3⟩:=hc.2 pre.length x (by rw[List.getElem?_append_right (Nat.le_refl _),Nat.sub_self];rfl);obtain⟨u',Ml,e2',e3'⟩:=hc.2 (pre.length+1) y (by rw[List.getElem?_append_right (by omega),Nat.add_sub_cancel_left];rfl);obtain⟨k1,k2⟩:=Nh q2 q8 e2;obtain⟨k1',k2'⟩:=Nh q2 q9 e2'
 cases S1 with
 |nil=>cases ht
 |cons fr Ω=>
 have hd:=q2.Lr
 obtain⟨bf,bΩ,rfl,hlen⟩:∃bf bΩ,β1=bf::bΩ/\bf.length=fr.length:=by
  cases β1 with
  |nil=>have:=hd.shape.1;simp at this
  |cons bf bΩ=>
   refine⟨bf,bΩ,rfl,?_⟩;obtain⟨gr,q1,q2⟩:=hd.shape.2 0 fr rfl;simp at q1;rw[q1];exact q2
 obtain⟨l1,l2,l3⟩:=hd.lay (o:=.tok z es) (h:=u) hlen (k1 _ _) fun b hb ⟨k,o,hh,f1,f2,f3⟩=>by
  obtain⟨m,g1,g2,g3⟩:=k2 b hb;have:=q2.apart (0,m) (k.1+1,k.2) _ o u hh b (by rw[bK];exact g1) (by rw[bK];exact g3) hb (by rw[cZ];exact f1) (by rw[cZ];exact f2) f3;cases this
 obtain⟨l4,l5,l6⟩:=l1.lay (o:=.tok z' es') (h:=u') (by simp[hlen]) (k1' _ _) fun b hb ⟨k,o,hh,f1,f2,f3⟩=>by
  obtain⟨m',g1',g2',g3'⟩:=k2' b hb;rcases l3 b ⟨k,o,hh,f1,f2,f3⟩ with⟨k,o,hh,f1,f2,f3⟩|q
  ·have:=q2.apart (0,m') (k.1+1,k.2) _ o u' hh b (by rw[bK];exact g1') (by rw[bK];exact g3') hb (by rw[cZ];exact f1) (by rw[cZ];exact f2) f3;cases this
  ·obtain⟨m,g1,g2,g3⟩:=k2 b q;have:=q2.apart (0,m') (0,m) _ _ u' u b (by rw[bK];exact g1') (by rw[bK];exact g3') hb (by rw[bK];exact g1) (by rw[bK];exact g3) q;cases this;rw[g1] at g1';injection g1' with g1';injection g1' with g1';exact hz g1'
 have el:(fr++[Obj.tok z es]).length=fr.length+1:=by simp
 refine⟨_,.agg (ds.map .d++[.bI (0,Cx (fr::Ω)) es,.bI (0,Cx (fr::Ω)+1) es']),_,σ',_,q1,l4,(q3.trans l2).trans l5,⟨q4.size,q4.os,q4.output,q4.far,q4.near,fun b hb=> ?_⟩,⟨a,rfl,Ka h1 hc (fun v f1 f2=> ?_) fun v f1 f2=> ?_⟩,rfl,?_⟩
 ·rcases l6 b hb with q|q
  ·rcases l3 b q with q|q
   ·exact q4.own b (y8 q)
   ·obtain⟨m,g1,g2,g3⟩:=k2 b q;exact q4.own b ⟨(0,m),_,u,by rw[bK];exact g1,by rw[bK];exact g3,q⟩
  ·obtain⟨m,g1,g2,g3⟩:=k2' b q;exact q4.own b ⟨(0,m),_,u',by rw[bK];exact g1,by rw[bK];exact g3,q⟩
 ·rw[e1] at f1;cases f1;refine⟨zf q8 e2,.tok z es,?_,fun bg es' e=> ?_⟩
  ·rw[wS,bK,List.getElem?_append_left (by simp),List.getElem?_append_right (Nat.le_refl _),Nat.sub_self];rfl
  obtain⟨_,rfl⟩:=lT (lab:=none) e;refine⟨Nat.le_refl _,fun _=> ?_⟩;rw[wS,bK,<-hlen,List.getElem?_append_left (by simp),List.getElem?_append_right (Nat.le_refl _),Nat.sub_self];rfl
 ·rw[Ml] at f1;cases f1;refine⟨zf q9 e2',.tok z' es',?_,fun bg es' e=> ?_⟩
  ·rw[wS,<-el];exact cu _ _ _
  obtain⟨_,rfl⟩:=lT (lab:=none) e;refine⟨Nat.le_refl _,fun _=> ?_⟩;rw[wS,<-el,show(fr++[Obj.tok z es]).length=(bf++[u]).length by simp[hlen]];exact cu _ _ _
 ·rw[O7,List.append_assoc];rfl
end
def zT:ak:=.mk 0 [] []
def mY(n:Int):ay:=.mk 1 [] [] n zT [] []
def xI(n:Int):ay:=.mk 2 [] [] n zT [] []
def xY(s:List UInt8):ay:=.mk 3 [] s 0 zT [] []
def rA(k:Int)(s:List UInt8)(l:List ay):ay:=.mk k [] s 0 zT l []
def zh:List (List UInt8):=[[102],[103]]
def Bt:List (List UInt8):=[[115,104,111,119],[97,100,100]]
def xJ:List (List UInt8):=[[43],[45],[42],[60],[61]]
theorem Wt:fI zh:=by unfold fI;decide
theorem abQ:fI Bt:=by unfold fI;decide
theorem abR:fI xJ:=by unfold fI;decide
def aL:List (List UInt8):=[[97]]
theorem alz:fI aL:=by unfold fI;decide
def mQ{bs:List Int}(k:Int)(sub:List (List UInt8)->Cu bs->ay×Cu bs)(vars:List (List UInt8))(c:Cu bs):ay×Cu bs:=
 if k=1 then(xI (bn 2 c).1,(bn 2 c).2) else
 if(k=2\/k=3)/\0<vars.length then(xY (bZ vars c).1,(bZ vars c).2) else
 if k=4 then(rA 4 (bZ zh c).1 [(sub vars (bZ zh c).2).1],(sub vars (bZ zh c).2).2) else
 if k=5 then(.mk 5 (bZ Bt c).1 [109] 0 zT [(sub vars (bZ Bt c).2).1,(sub vars (sub vars (bZ Bt c).2).2).1] [],(sub vars (sub vars (bZ Bt c).2).2).2) else
 if k=6 then(rA 6 [99,111,110,115] [(sub vars c).1,(sub vars (sub vars c).2).1],(sub vars (sub vars c).2).2) else
 if k=7 then(.mk 7 [] [] 0 zT [(sub vars c).1] [.mk [110,105,108] [] (sub vars (sub vars c).2).1,.mk [99,111,110,115] [[104],[116]] (sub (vars++[[104],[116]]) (sub vars (sub vars c).2).2).1],(sub (vars++[[104],[116]]) (sub vars (sub vars c).2).2).2) else
 if k=8 then(rA 8 [121] [(sub vars c).1,(sub (vars++[[121]]) (sub vars c).2).1],(sub (vars++[[121]]) (sub vars c).2).2) else
 if k=9 then(rA 9 [] [(sub vars c).1,(sub vars (sub vars c).2).1,(sub vars (sub vars (sub vars c).2).2).1],(sub vars (sub vars (sub vars c).2).2).2) else
 if k=10 then(rA 10 (bZ xJ c).1 [(sub vars (bZ xJ c).2).1,(sub vars (sub vars (bZ xJ c).2).2).1],(sub vars (sub vars (bZ xJ c).2).2).2) else
 if k=11 then(.mk 11 [115,104,111,119] [] 0 zT [(sub vars c).1] [],(sub vars c).2) else
 if k=12 then(.mk 12 [] [] 0 (mV aL 1 c).1 [(sub vars (mV aL 1 c).2).1] [],(sub vars (mV aL 1 c).2).2) else
 (mY ((bn 20 c).1-5),(bn 20 c).2)
def iD{bs:List Int}:Nat->List (List UInt8)->Cu bs->ay×Cu bs
 |0,vars,c=>mQ ((bn 13 c).1.tmod 3) (fun _ c=>(mY 0,c)) vars (bn 13 c).2
 |n+1,vars,c=>mQ (bn 13 c).1 (iD n) vars (bn 13 c).2
theorem fI.append{a b:List (List UInt8)}(h:fI a)(k:fI b):fI (a++b):=fun s hs=>(List.mem_append.1 hs).elim (h s) (k s)
theorem ou(k:Int)(t s:List UInt8)(n:Int)(ty:ak)(a:List ay)(b:List bq):(ay.mk k t s n ty a b).sz=t.length+s.length+ty.sz+a.length+aP (a.map ay.enc)+b.length+aP (b.map bq.enc):=by
 have:=ak.dP ty;simp only[ay.sz,ay.aJ,bQ,bP,D.sz,List.length_map,ay.aM,ay.bO,ay.fName,ay.fN,ay.fType,ay.fArgs,ay.aT,this];omega
theorem vI(s:List UInt8)(v:List (List UInt8))(b:ay):bQ (bq.mk s v b).enc=s.length+v.length+aP (v.map encS)+b.sz:=by
 have:=ay.dP b;simp only[bq.aJ,bQ,bP,D.sz,List.length_map,bq.dN,bq.aH,bq.fBody,this];omega
theorem qQ:zT.sz=0:=by simp[zT,ak.sz,ak.aJ,bQ,D.sz,aP,ak.fName,ak.fArgs]
theorem Wu{bs:List Int}{k:Int}{sub:List (List UInt8)->Cu bs->ay×Cu bs}{vars:List (List UInt8)}{m:Nat}(hv:fI vars)(hs:∀v c,fI v->(sub v c).1.sz<=m)(c:Cu bs):(mQ k sub vars c).1.sz<=3*m+40:=by
 have h1:=fun c=>hs vars c hv;have h2:=fun c=>hs (vars++[[104],[116]]) c (hv.append (by unfold fI;decide));have h3:=fun c=>hs (vars++[[121]]) c (hv.append (by unfold fI;decide));unfold mQ;by_cases e0:k=1
 ·rw[if_pos e0];simp only[xI,xY,rA,mY,ou,vI,qQ,List.map_cons,List.map_nil,List.length_cons,List.length_nil,aP,ay.dP,encS,bQ,D.sz];omega
 rw[if_neg e0];by_cases e1:(k=2\/k=3)/\0<vars.length
 ·rw[if_pos e1];simp only[xI,xY,rA,mY,ou,vI,qQ,List.map_cons,List.map_nil,List.length_cons,List.length_nil,aP,ay.dP,encS,bQ,D.sz];have:=iC c hv;omega
 rw[if_neg e1];by_cases e2:k=4
 ·rw[if_pos e2];simp only[xI,xY,rA,mY,ou,vI,qQ,List.map_cons,List.map_nil,List.length_cons,List.length_nil,aP,ay.dP,encS,bQ,D.sz];have:=iC c Wt;have:=h1 (bZ zh c).2;omega
 rw[if_neg e2];by_cases e3:k=5
 ·rw[if_pos e3];simp only[xI,xY,rA,mY,ou,vI,qQ,List.map_cons,List.map_nil,List.length_cons,List.length_nil,aP,ay.dP,encS,bQ,D.sz];have:=iC c abQ;have:=h1 (bZ Bt c).2;have:=h1 (sub vars (bZ Bt c).2).2;omega
 rw[if_neg e3];by_cases e4:k=6
 ·rw[if_pos e4];simp only[xI,xY,rA,mY,ou,vI,qQ,List.map_cons,List.map_nil,List.length_cons,List.length_nil,aP,ay.dP,encS,bQ,D.sz];have:=h1 c;have:=h1 (sub vars c).2;omega
 rw[if_neg e4];by_cases e5:k=7
 ·rw[if_pos e5];simp only[xI,xY,rA,mY,ou,vI,qQ,List.map_cons,List.map_nil,List.length_cons,List.length_nil,aP,ay.dP,encS,bQ,D.sz];have:=h1 c;have:=h1 (sub vars c).2;have:=h2 (sub vars (sub vars c).2).2;omega
 rw[if_neg e5];by_cases e6:k=8
 ·rw[if_pos e6];simp only[xI,xY,rA,mY,ou,vI,qQ,List.map_cons,List.map_nil,List.length_cons,List.length_nil,aP,ay.dP,encS,bQ,D.sz];have:=h1 c;have:=h3 (sub vars c).2;omega
 rw[if_neg e6];by_cases e7:k=9
 ·rw[if_pos e7];simp only[xI,xY,rA,mY,ou,vI,qQ,List.map_cons,List.map_nil,List.length_cons,List.length_nil,aP,ay.dP,encS,bQ,D.sz];have:=h1 c;have:=h1 (sub vars c).2;have:=h1 (sub vars (sub vars c).2).2;omega
 rw[if_neg e7];by_cases e8:k=10
 ·rw[if_pos e8];simp only[xI,xY,rA,mY,ou,vI,qQ,List.map_cons,List.map_nil,List.length_cons,List.length_nil,aP,ay.dP,encS,bQ,D.sz];have:=iC c abR;have:=h1 (bZ xJ c).2;have:=h1 (sub vars (bZ xJ c).2).2;omega
 rw[if_neg e8];by_cases e9:k=11
 ·rw[if_pos e9];simp only[xI,xY,rA,mY,ou,vI,qQ,List.map_cons,List.map_nil,List.length_cons,List.length_nil,aP,ay.dP,encS,bQ,D.sz];have:=h1 c;omega
 rw[if_neg e9];by_cases e10:k=12
 ·rw[if_pos e10];simp only[xI,xY,rA,mY,ou,vI,qQ,List.map_cons,List.map_nil,List.length_cons,List.length_nil,aP,ay.dP,encS,bQ,D.sz];have:=J8 alz 1 c;have:=h1 (mV aL 1 c).2;omega
 rw[if_neg e10];simp only[xI,xY,rA,mY,ou,vI,qQ,List.map_cons,List.map_nil,List.length_cons,List.length_nil,aP,ay.dP,encS,bQ,D.sz];omega
theorem Nj{bs:List Int}:∀(n:Nat)(vars:List (List UInt8))(c:Cu bs),fI vars->(iD n vars c).1.sz+20<=60*3^n
 |0,vars,c,hv=>by
  have:=Wu (k:=(bn 13 c).1.tmod 3) (sub:=fun _ c=>(mY 0,c)) (m:=0) hv (fun v c _=>by simp[mY,ou,qQ,aP]) (bn 13 c).2;rw[iD];omega
 |n+1,vars,c,hv=>by
  have ih:=Nj n (bs:=bs);have:=Wu (k:=(bn 13 c).1) (sub:=iD n) (m:=60*3^n-20) hv (fun v c h=>by have:=ih v c h;omega) (bn 13 c).2;have h1:1<=3^n:=Nat.one_le_pow _ _ (by omega);rw[iD,Nat.pow_succ];omega
theorem u6(k:Int)(t s:List UInt8)(n:Int)(ty:ak)(a:List ay)(b:List bq):(ay.mk k t s n ty a b).fArgs=a:=rfl
theorem u7(k:Int)(t s:List UInt8)(n:Int)(ty:ak)(a:List ay)(b:List bq):(ay.mk k t s n ty a b).aT=b:=rfl
theorem xK(s:List UInt8)(v:List (List UInt8))(b:ay):(bq.mk s v b).enc=.s s:: .sl (v.map encS)::b.enc:=by rw[bq.aJ];rfl
def exP(t:ay):List D:=[.i .i64 t.aM,.s t.bO,.s t.fName,.i .i64 t.fN,.i .i64 t.fType.aM,.s t.fType.fName,.sl (t.fType.fArgs.map ak.enc)]
def UL(t:ay)(S':Store):V->List Obj->Store->Prop:=Two (exP t) 9 11 (t.fArgs.map ay.enc) (t.aT.map bq.enc) S'
theorem EA(l:List ay):∀y∈l.map ay.enc,y.length=9:=by
 intro y hy;obtain⟨x,_,rfl⟩:=List.mem_map.1 hy;exact ay.eB x
theorem aiq(l:List bq):∀y∈l.map bq.enc,y.length=11:=by
 intro y hy;obtain⟨x,_,rfl⟩:=List.mem_map.1 hy;exact bq.eB x
theorem sN(n:Int):aF prog 78 [.c (.d (.i .i64 n))] (.agg [.d (.i .i64 1),.d (.s []),.d (.s []),.d (.i .i64 n),.d (.i .i64 0),.d (.s []),.bF [],.bF [],.bF []]):=fun S=>by
 refine zcx [.cell 2 30] func78 ntmps78 ?_;exact Z1
 first|done|exact⟨rfl,rfl⟩|rfl
theorem wT(s:List UInt8):aF prog 85 [.c (.d (.s s))] (.agg [.d (.i .i64 3),.d (.s []),.d (.s s),.d (.i .i64 0),.d (.i .i64 0),.d (.s []),.bF [],.bF [],.bF []]):=fun S=>by
 refine zcx [.cell 2 30] func85 ntmps85 ?_;exact Z1
 first|done|exact⟨rfl,rfl⟩|rfl
theorem FB(k:Int)(s:List UInt8)(l:List ay){es:List (List D)}(he:es=l.map ay.enc)(hl:l.length<=1048576){a:C}(ha:a=.d (.sl es)\/a=.bF es)(S:Store):uD prog 86 [.c (.d (.i .i64 k)),.c (.d (.s s)),.c a] S (UL (rA k s l) S):=by
 subst he;refine GL (rs:=[.cell 6 30]) zmx func86 ntmps86 rfl rfl rfl rfl rfl ?_;have hln:=EA l;rcases ha with rfl|rfl
 all_goals
  refine W1 ?_;refine⟨hln,⟨_,rfl,rfl⟩,fun y hy=>absurd hy List.not_mem_nil,by omega,rfl,[_,_,_,_,_,_,_],_,_,rfl,rfl,.inl ⟨1,rfl,rfl⟩,.inr ⟨rfl,fun e he=>by cases he⟩⟩
theorem kr{f:FuncId}{args:List V}{S S':Store}{t:ay}(h:uD prog f args S (UL t S')):bX prog f args S (fun r S1=>r=t.v/\S1=S'):=
 uD.anL h
theorem abS{f:FuncId}{args:List V}{S S':Store}{t:ay}(ht:Ew S'=true)(h:uD prog f args S (UL t S')):
 bX prog f args S (fun r S1=>r=.agg [.d (.i .i64 t.aM),.d (.s t.bO),.d (.s t.fName),.d (.i .i64 t.fN),.d (.i .i64 t.fType.aM),.d (.s t.fType.fName),.d (.sl (t.fType.fArgs.map ak.enc)),.bI (0,Cx S') (t.fArgs.map ay.enc),.bI (0,Cx S'+1) (t.aT.map bq.enc)]/\S1=O6 S' [.tok 9 (t.fArgs.map ay.enc),.tok 11 (t.aT.map bq.enc)]):=
 uD.ap2 (by decide) ht h
theorem zZ(k:Int)(s:List UInt8)(l:List ay){es:List (List D)}(he:es=l.map ay.enc)(hl:l.length<=1048576){a:C}(ha:a=.d (.sl es)\/a=.bF es){own:List Ab.Obj}{Ω:Store}:
 bX prog 86 [.c (.d (.i .i64 k)),.c (.d (.s s)),.c a] (own::Ω) (fun r S1=>r=.agg [.d (.i .i64 k),.d (.s []),.d (.s s),.d (.i .i64 0),.d (.i .i64 0),.d (.s []),.d (.sl []),.bI (0,own.length) es,.bI (0,own.length+1) []]/\S1=(own++[.tok 9 es,.tok 11 []])::Ω):=by
 have:=abS (S':=own::Ω) rfl (FB k s l he hl ha (own::Ω));rw[he];exact this
theorem oP{bs:List Int}(hB:Bytes bs):∀(n:Nat)(vars:List (List UInt8))(c:Cu bs)(l j:Nat)(S:Store),vars.length+2*n<=256->bE S (l,j)=some (.box (cur c))->
 uD prog 35 [.c (.ptr (l,j) 0),.c (.d (.sl (vars.map encS))),.c (.d (.i .i64 n))] S (UL (iD n vars c).1 (bG S (l,j) (.box (cur (iD n vars c).2)))):=by
 intro n
 induction n with
 |zero=>
  intro vars c l j S hv hk;have g:∀x:Ab.Obj,bE (bG S (l,j) x) (l,j)=some x:=fun x=>dL _ _ _ _ hk;have hx:=jK (n:=13) c (by omega);have hy:=Int.tmod_lt_of_pos (bn 13 c).1 (b:=3) (by omega);have hz:=Int.tmod_nonneg 3 hx.1;obtain⟨k,hkd⟩:∃k,k=(bn 13 c).1.tmod 3:=⟨_,rfl⟩;obtain⟨c1,hc1⟩:∃c1,c1=(bn 13 c).2:=⟨_,rfl⟩;rw[iD,<-hkd,<-hc1];obtain⟨q,hq⟩:∃q,q=mQ k (fun _ c=>(mY 0,c)) vars c1:=⟨_,rfl⟩;rw[<-hq];refine GL (rs:=[.cell 6 30]) zmx func35 ntmps35 rfl rfl rfl rfl rfl ?_;refine W1 ?_;refine aW rfl (eU hB c (1+l) j _ 13 (by rw[aV];exact hk) (by omega) (by omega)) ?_;rw[<-hc1];have d0:decide (((0:Nat):Int)<=0)=true:=rfl;simp -implicitDefEqProofs (disch:=omega) only[go_sem,d0];refine W3 ?_;rw[<-hkd] at hy hz ⊢;have d1:k<3:=hy;have n3:decide (k=3)=false:=decide_eq_false (by omega);have n4:decide (k=4)=false:=decide_eq_false (by omega);have n5:decide (k=5)=false:=decide_eq_false (by omega);have n6:decide (k=6)=false:=decide_eq_false (by omega);have n7:decide (k=7)=false:=decide_eq_false (by omega);have n8:decide (k=8)=false:=decide_eq_false (by omega);have n9:decide (k=9)=false:=decide_eq_false (by omega);have n10:decide (k=10)=false:=decide_eq_false (by omega);have n11:decide (k=11)=false:=decide_eq_false (by omega);have n12:decide (k=12)=false:=decide_eq_false (by omega)
  with_reducible refine dS (fun hb=> ?_) (fun hb=> ?_)<;>have h:=hb<;>(try simp only[wf_preprocess] at h)<;>simp -implicitDefEqProofs (disch:=omega) only[go_sem,hb,n3,n4,n5,n6,n7,n8,n9,n10,n11,n12]<;>refine W3 ?_
  ·subst h;simp only[mQ,reduceIte] at hq;refine aW rfl (eU hB c1 (1+l) j _ 2 (by rw[aV];exact g _) (by omega) (by omega)) ?_;simp -implicitDefEqProofs (disch:=omega) only[go_sem,n3,n4,n5,n6,n7,n8,n9,n10,n11,n12];rw[hq];refine⟨rfl,[_,_,_,_,_,_,_],_,_,rfl,rfl,.inr ⟨rfl,fun e he=>by cases he⟩,.inr ⟨rfl,fun e he=>by cases he⟩⟩
  have e1:=h
  with_reducible refine dS (fun hb=> ?_) (fun hb=> ?_)<;>have h:=hb<;>(try simp only[wf_preprocess] at h)<;>simp -implicitDefEqProofs (disch:=omega) only[go_sem,hb,n3,n4,n5,n6,n7,n8,n9,n10,n11,n12]<;>refine W3 ?_
  ·subst h;refine S0 (fun hb h=>?_) fun hb h=>?_
   ·have hl:0<vars.length:=by omega
    simp only[mQ,reduceIte,Int.reduceEq,false_or,or_false,or_self,false_and,true_and,if_pos hl] at hq;refine cK [true] rfl (eO hB c1 (1+l) j _ vars (by rw[aV];exact g _) (by omega) (by omega)) ?_;simp -implicitDefEqProofs (disch:=omega) only[go_sem,n3,n4,n5,n6,n7,n8,n9,n10,n11,n12];refine bD (wT (bZ vars c1).1) ?_;simp -implicitDefEqProofs (disch:=omega) only[go_sem,n3,n4,n5,n6,n7,n8,n9,n10,n11,n12];rw[hq];refine⟨rfl,[_,_,_,_,_,_,_],_,_,rfl,rfl,.inr ⟨rfl,fun e he=>by cases he⟩,.inr ⟨rfl,fun e he=>by cases he⟩⟩
   ·have hl:¬0<vars.length:=by omega
    simp only[mQ,reduceIte,Int.reduceEq,false_or,or_false,or_self,false_and,true_and,if_neg hl] at hq;have hx2:=jK (n:=20) c1 (by omega);refine aW rfl (eU hB c1 (1+l) j _ 20 (by rw[aV];exact g _) (by omega) (by omega)) ?_;simp -implicitDefEqProofs (disch:=omega) only[go_sem,n3,n4,n5,n6,n7,n8,n9,n10,n11,n12];refine W3 ?_;refine bD (sN ((bn 20 c1).1-5)) ?_;simp -implicitDefEqProofs (disch:=omega) only[go_sem,n3,n4,n5,n6,n7,n8,n9,n10,n11,n12];rw[hq];refine⟨rfl,[_,_,_,_,_,_,_],_,_,rfl,rfl,.inr ⟨rfl,fun e he=>by cases he⟩,.inr ⟨rfl,fun e he=>by cases he⟩⟩
  have e2:=h
  have e3:¬k=3:=by omega
  have e4:¬k=4:=by omega
  have e5:¬k=5:=by omega
  have e6:¬k=6:=by omega
  have e7:¬k=7:=by omega
  have e8:¬k=8:=by omega
  have e9:¬k=9:=by omega
  have e10:¬k=10:=by omega
  have e11:¬k=11:=by omega
  have e12:¬k=12:=by omega
  simp only[mQ,if_neg e1,e2,e3,false_or,or_self,false_and,reduceIte,if_neg e4,if_neg e5,if_neg e6,if_neg e7,if_neg e8,if_neg e9,if_neg e10,if_neg e11,if_neg e12] at hq;have hx2:=jK (n:=20) c1 (by omega);refine aW rfl (eU hB c1 (1+l) j _ 20 (by rw[aV];exact g _) (by omega) (by omega)) ?_;simp -implicitDefEqProofs (disch:=omega) only[go_sem,n3,n4,n5,n6,n7,n8,n9,n10,n11,n12];refine W3 ?_;refine bD (sN ((bn 20 c1).1-5)) ?_;simp -implicitDefEqProofs (disch:=omega) only[go_sem,n3,n4,n5,n6,n7,n8,n9,n10,n11,n12];rw[hq];refine⟨rfl,[_,_,_,_,_,_,_],_,_,rfl,rfl,.inr ⟨rfl,fun e he=>by cases he⟩,.inr ⟨rfl,fun e he=>by cases he⟩⟩
 |succ n ih=>
  intro vars c l j S hv hk;have g:∀x:Ab.Obj,bE (bG S (l,j) x) (l,j)=some x:=fun x=>dL _ _ _ _ hk;have hx:=jK (n:=13) c (by omega);obtain⟨k,hkd⟩:∃k,k=(bn 13 c).1:=⟨_,rfl⟩;obtain⟨c1,hc1⟩:∃c1,c1=(bn 13 c).2:=⟨_,rfl⟩;have ih1:=fun vars c l j S hv hk=>kr (ih vars c l j S hv hk);rw[iD,<-hkd,<-hc1];obtain⟨q,hq⟩:∃q,q=mQ k (iD n) vars c1:=⟨_,rfl⟩;rw[<-hq];refine GL (rs:=[.cell 6 30]) zmx func35 ntmps35 rfl rfl rfl rfl rfl ?_;refine W1 ?_;refine aW rfl (eU hB c (1+l) j _ 13 (by rw[aV];exact hk) (by omega) (by omega)) ?_;rw[<-hkd,<-hc1];have d0:decide (((n+1:Nat):Int)<=0)=false:=decide_eq_false (by omega)
  have d1:((n+1:Nat):Int)-1=(n:Int):=by omega
  simp -implicitDefEqProofs (disch:=omega) only[go_sem,d0]
  have hm:∀y∈vars.map encS,y.length=1:=by
   intro y hy;obtain⟨z,_,rfl⟩:=List.mem_map.1 hy;rfl
  with_reducible refine dS (fun hb=> ?_) (fun hb=> ?_)<;>have h:=hb<;>(try simp only[wf_preprocess] at h)<;>simp -implicitDefEqProofs (disch:=omega) only[go_sem,hb,d1]<;>refine W3 ?_
  ·subst h;simp only[mQ,reduceIte] at hq;refine aW rfl (eU hB c1 (1+l) j _ 2 (by rw[aV];exact g _) (by omega) (by omega)) ?_;simp -implicitDefEqProofs (disch:=omega) only[go_sem,d1];rw[hq];refine⟨rfl,[_,_,_,_,_,_,_],_,_,rfl,rfl,.inr ⟨rfl,fun e he=>by cases he⟩,.inr ⟨rfl,fun e he=>by cases he⟩⟩
  have e1:=h
  with_reducible refine dS (fun hb=> ?_) (fun hb=> ?_)<;>have h:=hb<;>(try simp only[wf_preprocess] at h)<;>simp -implicitDefEqProofs (disch:=omega) only[go_sem,hb,d1]<;>refine W3 ?_
  ·subst h
   with_reducible refine dS (fun hb=> ?_) (fun hb=> ?_)<;>have h:=hb<;>(try simp only[wf_preprocess] at h)<;>simp -implicitDefEqProofs (disch:=omega) only[go_sem,hb,d1]<;>refine W3 ?_
   ·have hl:0<vars.length:=by omega
    simp only[mQ,reduceIte,Int.reduceEq,false_or,or_false,or_self,false_and,true_and,if_pos hl] at hq;refine cK [true] rfl (eO hB c1 (1+l) j _ vars (by rw[aV];exact g _) (by omega) (by omega)) ?_;simp -implicitDefEqProofs (disch:=omega) only[go_sem,d1];refine bD (wT (bZ vars c1).1) ?_;simp -implicitDefEqProofs (disch:=omega) only[go_sem,d1];rw[hq];refine⟨rfl,[_,_,_,_,_,_,_],_,_,rfl,rfl,.inr ⟨rfl,fun e he=>by cases he⟩,.inr ⟨rfl,fun e he=>by cases he⟩⟩
   ·have hl:¬0<vars.length:=by omega
    simp only[mQ,reduceIte,Int.reduceEq,false_or,or_false,or_self,false_and,true_and,if_neg hl] at hq;have hx2:=jK (n:=20) c1 (by omega);refine aW rfl (eU hB c1 (1+l) j _ 20 (by rw[aV];exact g _) (by omega) (by omega)) ?_;simp -implicitDefEqProofs (disch:=omega) only[go_sem,d1];refine W3 ?_;refine bD (sN ((bn 20 c1).1-5)) ?_;simp -implicitDefEqProofs (disch:=omega) only[go_sem,d1];rw[hq];refine⟨rfl,[_,_,_,_,_,_,_],_,_,rfl,rfl,.inr ⟨rfl,fun e he=>by cases he⟩,.inr ⟨rfl,fun e he=>by cases he⟩⟩
  have e2:=h
  with_reducible refine dS (fun hb=> ?_) (fun hb=> ?_)<;>have h:=hb<;>(try simp only[wf_preprocess] at h)<;>simp -implicitDefEqProofs (disch:=omega) only[go_sem,hb,d1]<;>refine W3 ?_
  ·subst h
   with_reducible refine dS (fun hb=> ?_) (fun hb=> ?_)<;>have h:=hb<;>(try simp only[wf_preprocess] at h)<;>simp -implicitDefEqProofs (disch:=omega) only[go_sem,hb,d1]<;>refine W3 ?_
   ·have hl:0<vars.length:=by omega
    simp only[mQ,reduceIte,Int.reduceEq,false_or,or_false,or_self,false_and,true_and,if_pos hl] at hq;refine cK [true] rfl (eO hB c1 (1+l) j _ vars (by rw[aV];exact g _) (by omega) (by omega)) ?_;simp -implicitDefEqProofs (disch:=omega) only[go_sem,d1];refine bD (wT (bZ vars c1).1) ?_;simp -implicitDefEqProofs (disch:=omega) only[go_sem,d1];rw[hq];refine⟨rfl,[_,_,_,_,_,_,_],_,_,rfl,rfl,.inr ⟨rfl,fun e he=>by cases he⟩,.inr ⟨rfl,fun e he=>by cases he⟩⟩
   ·have hl:¬0<vars.length:=by omega
    simp only[mQ,reduceIte,Int.reduceEq,false_or,or_false,or_self,false_and,true_and,if_neg hl] at hq;have hx2:=jK (n:=20) c1 (by omega);refine aW rfl (eU hB c1 (1+l) j _ 20 (by rw[aV];exact g _) (by omega) (by omega)) ?_;simp -implicitDefEqProofs (disch:=omega) only[go_sem,d1];refine W3 ?_;refine bD (sN ((bn 20 c1).1-5)) ?_;simp -implicitDefEqProofs (disch:=omega) only[go_sem,d1];rw[hq];refine⟨rfl,[_,_,_,_,_,_,_],_,_,rfl,rfl,.inr ⟨rfl,fun e he=>by cases he⟩,.inr ⟨rfl,fun e he=>by cases he⟩⟩
  have e3:=h
  with_reducible refine dS (fun hb=> ?_) (fun hb=> ?_)<;>have h:=hb<;>(try simp only[wf_preprocess] at h)<;>simp -implicitDefEqProofs (disch:=omega) only[go_sem,hb,d1]<;>refine W3 ?_
  ·subst h;simp only[mQ,reduceIte,Int.reduceEq,false_or,or_false,or_self,false_and] at hq;refine cK [true] rfl (eO hB c1 (1+l) j _ zh (by rw[aV];exact g _) (by decide) (by decide)) ?_;simp -implicitDefEqProofs (disch:=omega) only[go_sem,d1];refine cK [true] rfl (ih1 vars (bZ zh c1).2 (1+l) j _ (by first|omega|(simp only[List.length_append,List.length_cons,List.length_nil];omega)) (by rw[aV];exact g _)) ?_;simp -implicitDefEqProofs (disch:=omega) only[go_sem,d1];refine W3 ?_;refine aW rfl (zZ 4 (bZ zh c1).1 [(iD n vars (bZ zh c1).2).1] (by simp only[List.map_cons,List.map_nil,ay.aJ,ak.aJ,List.cons_append,List.nil_append]) (by simp) (.inr rfl)) ?_;simp -implicitDefEqProofs (disch:=omega) only[go_sem,d1];rw[hq];refine⟨rfl,[_,_,_,_,_,_,_],_,_,rfl,rfl,.inl ⟨1,?_,?_⟩,.inl ⟨2,?_,?_⟩⟩<;>simp only[rA,u6,u7,List.map_cons,List.map_nil,ay.aJ,xK,ak.aJ,encS,List.cons_append,List.nil_append]<;>rfl
  have e4:=h
  with_reducible refine dS (fun hb=> ?_) (fun hb=> ?_)<;>have h:=hb<;>(try simp only[wf_preprocess] at h)<;>simp -implicitDefEqProofs (disch:=omega) only[go_sem,hb,d1]<;>refine W3 ?_
  ·subst h;simp only[mQ,reduceIte,Int.reduceEq,false_or,or_false,or_self,false_and] at hq;refine cK [true] rfl (eO hB c1 (1+l) j _ Bt (by rw[aV];exact g _) (by decide) (by decide)) ?_;simp -implicitDefEqProofs (disch:=omega) only[go_sem,d1];refine cK [true] rfl (ih1 vars (bZ Bt c1).2 (1+l) j _ (by first|omega|(simp only[List.length_append,List.length_cons,List.length_nil];omega)) (by rw[aV];exact g _)) ?_;simp -implicitDefEqProofs (disch:=omega) only[go_sem,d1];refine cK [true] rfl (ih1 vars (iD n vars (bZ Bt c1).2).2 (1+l) j _ (by first|omega|(simp only[List.length_append,List.length_cons,List.length_nil];omega)) (by rw[aV];exact g _)) ?_;simp -implicitDefEqProofs (disch:=omega) only[go_sem,d1];refine W3 ?_;rw[hq];refine⟨rfl,[_,_,_,_,_,_,_],_,_,rfl,rfl,.inr ⟨?_,EA _⟩,.inr ⟨rfl,fun e he=>by cases he⟩⟩<;>simp only[rA,u6,u7,List.map_cons,List.map_nil,ay.aJ,xK,ak.aJ,encS,List.cons_append,List.nil_append]<;>rfl
  have e5:=h
  with_reducible refine dS (fun hb=> ?_) (fun hb=> ?_)<;>have h:=hb<;>(try simp only[wf_preprocess] at h)<;>simp -implicitDefEqProofs (disch:=omega) only[go_sem,hb,d1]<;>refine W3 ?_
  ·subst h;simp only[mQ,reduceIte,Int.reduceEq,false_or,or_false,or_self,false_and] at hq;refine cK [true] rfl (ih1 vars c1 (1+l) j _ (by first|omega|(simp only[List.length_append,List.length_cons,List.length_nil];omega)) (by rw[aV];exact g _)) ?_;simp -implicitDefEqProofs (disch:=omega) only[go_sem,d1];refine cK [true] rfl (ih1 vars (iD n vars c1).2 (1+l) j _ (by first|omega|(simp only[List.length_append,List.length_cons,List.length_nil];omega)) (by rw[aV];exact g _)) ?_;simp -implicitDefEqProofs (disch:=omega) only[go_sem,d1];refine W3 ?_;refine aW rfl (zZ 6 [99,111,110,115] [(iD n vars c1).1,(iD n vars (iD n vars c1).2).1] (by simp only[List.map_cons,List.map_nil,ay.aJ,ak.aJ,List.cons_append,List.nil_append]) (by simp) (.inr rfl)) ?_;simp -implicitDefEqProofs (disch:=omega) only[go_sem,d1];rw[hq];refine⟨rfl,[_,_,_,_,_,_,_],_,_,rfl,rfl,.inl ⟨1,?_,?_⟩,.inl ⟨2,?_,?_⟩⟩<;>simp only[rA,u6,u7,List.map_cons,List.map_nil,ay.aJ,xK,ak.aJ,encS,List.cons_append,List.nil_append]<;>rfl
  have e6:=h
  with_reducible refine dS (fun hb=> ?_) (fun hb=> ?_)<;>have h:=hb<;>(try simp only[wf_preprocess] at h)<;>simp -implicitDefEqProofs (disch:=omega) only[go_sem,hb,d1]<;>refine W3 ?_
  ·subst h;simp only[mQ,reduceIte,Int.reduceEq,false_or,or_false,or_self,false_and] at hq;refine cK [true] rfl (ih1 vars c1 (1+l) j _ (by first|omega|(simp only[List.length_append,List.length_cons,List.length_nil];omega)) (by rw[aV];exact g _)) ?_;simp -implicitDefEqProofs (disch:=omega) only[go_sem,d1];refine cK [true] rfl (ih1 vars (iD n vars c1).2 (1+l) j _ (by first|omega|(simp only[List.length_append,List.length_cons,List.length_nil];omega)) (by rw[aV];exact g _)) ?_;simp -implicitDefEqProofs (disch:=omega) only[go_sem,d1];have ih2:=fun c l j S hk=>ih1 (vars++[[104],[116]]) c l j S (by simp only[List.length_append,List.length_cons,List.length_nil];omega) hk;simp only[List.map_append,List.map_cons,List.map_nil,encS] at ih2;refine cK [true] rfl (ih2 (iD n vars (iD n vars c1).2).2 (1+l) j _ (by rw[aV];exact g _)) ?_;simp -implicitDefEqProofs (disch:=omega) only[go_sem,d1];refine W3 ?_;rw[hq];refine⟨rfl,[_,_,_,_,_,_,_],_,_,rfl,rfl,.inr ⟨?_,EA _⟩,.inr ⟨?_,aiq _⟩⟩<;>simp only[rA,u6,u7,List.map_cons,List.map_nil,ay.aJ,xK,ak.aJ,encS,List.cons_append,List.nil_append]<;>rfl
  have e7:=h
  with_reducible refine dS (fun hb=> ?_) (fun hb=> ?_)<;>have h:=hb<;>(try simp only[wf_preprocess] at h)<;>simp -implicitDefEqProofs (disch:=omega) only[go_sem,hb,d1]<;>refine W3 ?_
  ·subst h;simp only[mQ,reduceIte,Int.reduceEq,false_or,or_false,or_self,false_and] at hq;refine cK [true] rfl (ih1 vars c1 (1+l) j _ (by first|omega|(simp only[List.length_append,List.length_cons,List.length_nil];omega)) (by rw[aV];exact g _)) ?_;simp -implicitDefEqProofs (disch:=omega) only[go_sem,d1];refine⟨hm,⟨_,rfl,rfl⟩,fun y hy=>absurd hy List.not_mem_nil,by omega,by simp,⟨_,rfl,rfl⟩,by omega,?_⟩;have ih2:=fun c l j S hk=>ih1 (vars++[[121]]) c l j S (by simp only[List.length_append,List.length_cons,List.length_nil];omega) hk;simp only[List.map_append,List.map_cons,List.map_nil,encS] at ih2;refine cK [true] rfl (ih2 (iD n vars c1).2 (1+l) j _ (by rw[aV];exact g _)) ?_;simp -implicitDefEqProofs (disch:=omega) only[go_sem,d1];refine W3 ?_;refine aW rfl (zZ 8 [121] [(iD n vars c1).1,(iD n (vars++[[121]]) (iD n vars c1).2).1] (by simp only[List.map_cons,List.map_nil,ay.aJ,ak.aJ,List.cons_append,List.nil_append]) (by simp) (.inr rfl)) ?_;simp -implicitDefEqProofs (disch:=omega) only[go_sem,d1];rw[hq];refine⟨rfl,[_,_,_,_,_,_,_],_,_,rfl,rfl,.inl ⟨2,?_,?_⟩,.inl ⟨3,?_,?_⟩⟩<;>simp only[rA,u6,u7,List.map_cons,List.map_nil,ay.aJ,xK,ak.aJ,encS,List.cons_append,List.nil_append]<;>rfl
  have e8:=h
  with_reducible refine dS (fun hb=> ?_) (fun hb=> ?_)<;>have h:=hb<;>(try simp only[wf_preprocess] at h)<;>simp -implicitDefEqProofs (disch:=omega) only[go_sem,hb,d1]<;>refine W3 ?_
  ·subst h;simp only[mQ,reduceIte,Int.reduceEq,false_or,or_false,or_self,false_and] at hq;refine cK [true] rfl (ih1 vars c1 (1+l) j _ (by first|omega|(simp only[List.length_append,List.length_cons,List.length_nil];omega)) (by rw[aV];exact g _)) ?_;simp -implicitDefEqProofs (disch:=omega) only[go_sem,d1];refine cK [true] rfl (ih1 vars (iD n vars c1).2 (1+l) j _ (by first|omega|(simp only[List.length_append,List.length_cons,List.length_nil];omega)) (by rw[aV];exact g _)) ?_;simp -implicitDefEqProofs (disch:=omega) only[go_sem,d1];refine cK [true] rfl (ih1 vars (iD n vars (iD n vars c1).2).2 (1+l) j _ (by first|omega|(simp only[List.length_append,List.length_cons,List.length_nil];omega)) (by rw[aV];exact g _)) ?_;simp -implicitDefEqProofs (disch:=omega) only[go_sem,d1];refine W3 ?_;refine aW rfl (zZ 9 [] [(iD n vars c1).1,(iD n vars (iD n vars c1).2).1,(iD n vars (iD n vars (iD n vars c1).2).2).1] (by simp only[List.map_cons,List.map_nil,ay.aJ,ak.aJ,List.cons_append,List.nil_append]) (by simp) (.inr rfl)) ?_;simp -implicitDefEqProofs (disch:=omega) only[go_sem,d1];rw[hq];refine⟨rfl,[_,_,_,_,_,_,_],_,_,rfl,rfl,.inl ⟨1,?_,?_⟩,.inl ⟨2,?_,?_⟩⟩<;>simp only[rA,u6,u7,List.map_cons,List.map_nil,ay.aJ,xK,ak.aJ,encS,List.cons_append,List.nil_append]<;>rfl
  have e9:=h
  with_reducible refine dS (fun hb=> ?_) (fun hb=> ?_)<;>have h:=hb<;>(try simp only[wf_preprocess] at h)<;>simp -implicitDefEqProofs (disch:=omega) only[go_sem,hb,d1]<;>refine W3 ?_
  ·subst h;simp only[mQ,reduceIte,Int.reduceEq,false_or,or_false,or_self,false_and] at hq;refine cK [true] rfl (eO hB c1 (1+l) j _ xJ (by rw[aV];exact g _) (by decide) (by decide)) ?_;simp -implicitDefEqProofs (disch:=omega) only[go_sem,d1];refine cK [true] rfl (ih1 vars (bZ xJ c1).2 (1+l) j _ (by first|omega|(simp only[List.length_append,List.length_cons,List.length_nil];omega)) (by rw[aV];exact g _)) ?_;simp -implicitDefEqProofs (disch:=omega) only[go_sem,d1];refine cK [true] rfl (ih1 vars (iD n vars (bZ xJ c1).2).2 (1+l) j _ (by first|omega|(simp only[List.length_append,List.length_cons,List.length_nil];omega)) (by rw[aV];exact g _)) ?_;simp -implicitDefEqProofs (disch:=omega) only[go_sem,d1];refine W3 ?_;refine aW rfl (zZ 10 (bZ xJ c1).1 [(iD n vars (bZ xJ c1).2).1,(iD n vars (iD n vars (bZ xJ c1).2).2).1] (by simp only[List.map_cons,List.map_nil,ay.aJ,ak.aJ,List.cons_append,List.nil_append]) (by simp) (.inr rfl)) ?_;simp -implicitDefEqProofs (disch:=omega) only[go_sem,d1];rw[hq];refine⟨rfl,[_,_,_,_,_,_,_],_,_,rfl,rfl,.inl ⟨1,?_,?_⟩,.inl ⟨2,?_,?_⟩⟩<;>simp only[rA,u6,u7,List.map_cons,List.map_nil,ay.aJ,xK,ak.aJ,encS,List.cons_append,List.nil_append]<;>rfl
  have e10:=h
  with_reducible refine dS (fun hb=> ?_) (fun hb=> ?_)<;>have h:=hb<;>(try simp only[wf_preprocess] at h)<;>simp -implicitDefEqProofs (disch:=omega) only[go_sem,hb,d1]<;>refine W3 ?_
  ·subst h;simp only[mQ,reduceIte,Int.reduceEq,false_or,or_false,or_self,false_and] at hq;refine cK [true] rfl (ih1 vars c1 (1+l) j _ (by first|omega|(simp only[List.length_append,List.length_cons,List.length_nil];omega)) (by rw[aV];exact g _)) ?_;simp -implicitDefEqProofs (disch:=omega) only[go_sem,d1];refine W3 ?_;rw[hq];refine⟨rfl,[_,_,_,_,_,_,_],_,_,rfl,rfl,.inr ⟨?_,EA _⟩,.inr ⟨rfl,fun e he=>by cases he⟩⟩<;>simp only[rA,u6,u7,List.map_cons,List.map_nil,ay.aJ,xK,ak.aJ,encS,List.cons_append,List.nil_append]<;>rfl
  have e11:=h
  with_reducible refine dS (fun hb=> ?_) (fun hb=> ?_)<;>have h:=hb<;>(try simp only[wf_preprocess] at h)<;>simp -implicitDefEqProofs (disch:=omega) only[go_sem,hb,d1]<;>refine W3 ?_
  ·subst h;simp only[mQ,reduceIte,Int.reduceEq,false_or,or_false,or_self,false_and] at hq;refine cK [true] rfl (vU (Iz hB (vars:=aL) (by decide) 1 c1 (1+l) j _ (by rw[aV];exact g _) (by omega))) ?_;simp -implicitDefEqProofs (disch:=omega) only[go_sem,d1];refine cK [true] rfl (ih1 vars (mV aL 1 c1).2 (1+l) j _ (by first|omega|(simp only[List.length_append,List.length_cons,List.length_nil];omega)) (by rw[aV];exact g _)) ?_;simp -implicitDefEqProofs (disch:=omega) only[go_sem,d1];refine W3 ?_;rw[hq];refine⟨rfl,[_,_,_,_,_,_,_],_,_,rfl,rfl,.inr ⟨?_,EA _⟩,.inr ⟨rfl,fun e he=>by cases he⟩⟩<;>simp only[rA,u6,u7,List.map_cons,List.map_nil,ay.aJ,xK,ak.aJ,encS,List.cons_append,List.nil_append]<;>rfl
  have e12:=h;simp only[mQ,if_neg e1,e2,e3,false_or,or_self,false_and,reduceIte,if_neg e4,if_neg e5,if_neg e6,if_neg e7,if_neg e8,if_neg e9,if_neg e10,if_neg e11,if_neg e12] at hq;have hx2:=jK (n:=20) c1 (by omega);refine aW rfl (eU hB c1 (1+l) j _ 20 (by rw[aV];exact g _) (by omega) (by omega)) ?_;simp -implicitDefEqProofs (disch:=omega) only[go_sem,d1];refine W3 ?_;refine bD (sN ((bn 20 c1).1-5)) ?_;simp -implicitDefEqProofs (disch:=omega) only[go_sem,d1];rw[hq];refine⟨rfl,[_,_,_,_,_,_,_],_,_,rfl,rfl,.inr ⟨rfl,fun e he=>by cases he⟩,.inr ⟨rfl,fun e he=>by cases he⟩⟩
end Go.Ab