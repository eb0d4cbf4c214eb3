/-
  SEVERAL TEXTS IN ONE (merged by program): contracts and models, each with its own heading.
-/
import Derived.Test.YtlaaknnkeidlbaaGreatDoorPartDedbC
set_option linter.unusedSimpArgs false
set_option linter.unusedVariables false
namespace Go.Ab
def Bb(n:Nat):Key->Key
 |(0,j)=>(0,n+j)
 |(l+1,j)=>(l,j)
def C.mg(n:Nat):C->C
 | .d x=>.d x
 | .any=>.any
 | .bM k es=>.bM (Bb n k) es
 | .bB es=>.bB es
 | .ptr k off=>.ptr (Bb n k) off
 | .jI cs=>.jI cs
 | .jv k i off=>.jv (Bb n k) i off
 | .fD k=>.fD (Bb n k)
 | .fn f caps=>.fn f (caps.map fun x=>(Bb n x.1,x.2))
 | .mp k=>.mp (Bb n k)
 | .iT m es=>.iT m es
 | .xp k r p=>.xp (Bb n k) r p
 | .xq k r p z i off=>.xq (Bb n k) r p z i off
def V.mg(n:Nat):V->V
 | .c x=>.c (x.mg n)
 | .agg cs=>.agg (cs.map (C.mg n))
 | .dI xs=>.dI (xs.map fun y=>(y.1,y.2.map (C.mg n)))
 | .any=>.any
def Obj.mg(n:Nat):Obj->Obj
 | .box cs=>.box (cs.map (C.mg n))
 |o=>o
section
variable {P:Program} {w:World} {σ:Nat->Nat} {own bq:List Obj} {Ω:Store} {bo nW:List Value} {bΩ:Hs}
theorem KQ{n:Nat}{o:Obj}{h:Value}{b:Nat}:owns (o.mg n) h b<->owns o h b:=by
 cases o with
 |box cs=>
  cases h with
  |pointer a=>cases a<;>exact eK
  |_=>exact eK
 |_=>exact eK
theorem zR{k:Key}{o:Obj}(h:aN (own::bq::Ω) k=some o):
 aN ((bq++own.map (Obj.mg bq.length))::Ω) (Bb bq.length k)=some (if k.1=0 then o.mg bq.length else o):=by
 obtain⟨l,j⟩:=k
 cases l with
 |zero=>
  rw[aD] at h;show aN _ (0,bq.length+j)=_;rw[aD,ac (by omega),show bq.length+j-bq.length=j by omega,be,h];rfl
 |succ l=>
  rw[aV] at h;show aN _ (l,j)=some o
  cases l with
  |zero=>
   rw[aD] at h ⊢;rw[an (ae.1 h).1];exact h
  |succ l=>rw[aV] at h ⊢;exact h
theorem zS(hl:nW.length=bq.length){k:Key}{h:Value}(e:aN (bo::nW::bΩ) k=some h):aN ((nW++bo)::bΩ) (Bb bq.length k)=some h:=by
 obtain⟨l,j⟩:=k
 cases l with
 |zero=>
  rw[aD] at e;show aN _ (0,bq.length+j)=_;rw[aD,ac (by omega),show bq.length+j-nW.length=j by omega,e]
 |succ l=>
  rw[aV] at e;show aN _ (l,j)=some h
  cases l with
  |zero=>
   rw[aD] at e ⊢;rw[an (ae.1 e).1];exact e
  |succ l=>rw[aV] at e ⊢;exact e
theorem Fu(hl:nW.length=bq.length)(hlo:bo.length=own.length){k:Key}{o:Obj}(h:aN ((bq++own.map (Obj.mg bq.length))::Ω) k=some o):
 ∃k0 o0,Bb bq.length k0=k/\aN (own::bq::Ω) k0=some o0/\o=(if k0.1=0 then o0.mg bq.length else o0)/\aN ((nW++bo)::bΩ) k=aN (bo::nW::bΩ) k0:=by
 obtain⟨l,j⟩:=k
 cases l with
 |zero=>
  rw[aD] at h;by_cases hj:j<bq.length
  ·rw[an hj] at h;refine⟨(1,j),o,rfl,by rw[aV,aD];exact h,rfl,?_⟩;rw[aD,aV,aD,an (by omega)]
  ·rw[ac (by omega),be] at h
   cases hx:own[j-bq.length]? with
   |none=>rw[hx] at h;cases h
   |some x=>
    rw[hx] at h;cases h;refine⟨(0,j-bq.length),x,?_,by rw[aD];exact hx,rfl,?_⟩
    ·show(0,bq.length+(j-bq.length))=(0,j);rw[show bq.length+(j-bq.length)=j by omega]
    ·rw[aD,aD,ac (by omega),hl]
 |succ l=>
  rw[aV] at h;exact⟨(l+2,j),o,rfl,by rw[aV,aV];exact h,rfl,by rw[aV,aV,aV]⟩
theorem tK{n:Nat}{k:Key}{o:Obj}:(∀aJ es,nI (if k.1=0 then o.mg n else o) aJ es->nI o aJ es)/\(∀aJ es,(if k.1=0 then o.mg n else o)=.bU aJ es->o=.bU aJ es)/\
 (∀m,(if k.1=0 then o.mg n else o)=.mp m->o=.mp m)/\(∀cs,(if k.1=0 then o.mg n else o)=.box cs->∃cs',o=.box cs')/\(∀rs,(if k.1=0 then o.mg n else o)=.xf rs->o=.xf rs):=by
 by_cases e:k.1=0
 ·simp only[if_pos e];cases o<;>simp[Obj.mg,nI]
 ·simp only[if_neg e];exact⟨fun _ _ h=>h,fun _ _ h=>h,fun _ h=>h,fun cs h=>⟨cs,h⟩,fun _ h=>h⟩
theorem abX(hl:nW.length=bq.length){c:C}{v:Value}(h:dS w σ (own::bq::Ω) (bo::nW::bΩ) c v):
 dS w σ ((bq++own.map (Obj.mg bq.length))::Ω) ((nW++bo)::bΩ) (c.mg bq.length) v:=by
 cases c with
 |d x=>exact h
 |any=>exact trivial
 |bB es=>exact h
 |jI cs=>exact h
 |iT m es=>exact h
 |xp k r p=>
  obtain⟨o,ho,h2⟩:=h;refine⟨_,zR ho,fun rs e=> ?_⟩;obtain⟨hh,q1,q2⟩:=h2 rs (tK.2.2.2.2 _ e);exact⟨hh,zS hl q1,q2⟩
 |xq k r p z i off=>
  obtain⟨o,ho,h2⟩:=h;refine⟨_,zR ho,fun rs e=> ?_⟩;obtain⟨hh,b,a,n,cap,q1,q2⟩:=h2 rs (tK.2.2.2.2 _ e);exact⟨hh,b,a,n,cap,zS hl q1,q2⟩
 |bM k es=>
  obtain⟨h1,o,ho,h2⟩:=h;refine⟨h1,_,zR ho,fun aJ es' e=> ?_⟩;obtain⟨q1,q2⟩:=h2 aJ es' (tK.1 _ _ e);exact⟨q1,fun e'=>zS hl (q2 e')⟩
 |ptr k off=>
  obtain⟨o,ho,h2⟩:=h;refine⟨_,zR ho,fun cs e=> ?_⟩;obtain⟨cs',e'⟩:=tK.2.2.2.1 _ e;obtain⟨b,q1,q2⟩:=h2 cs' e';exact⟨b,zS hl q1,q2⟩
 |jv k i off=>
  obtain⟨o,ho,h2⟩:=h;refine⟨_,zR ho,fun aJ es e=> ?_⟩;obtain⟨b,n,cap,q1,q2⟩:=h2 aJ es (tK.2.1 _ _ e);exact⟨b,n,cap,zS hl q1,q2⟩
 |fD k=>
  obtain⟨o,ho,h2⟩:=h;exact⟨_,zR ho,fun aJ es e=>zS hl (h2 aJ es (tK.2.1 _ _ e))⟩
 |mp k=>
  obtain⟨o,ho,h2⟩:=h;exact⟨_,zR ho,fun m e=>zS hl (h2 m (tK.2.2.1 _ e))⟩
 |fn f caps=>
  obtain⟨vs,e,hsz,hc⟩:=h;refine⟨vs,e,by rw[hsz,ai],fun j k off hj=> ?_⟩;rw[be] at hj
  cases hx:caps[j]? with
  |none=>rw[hx] at hj;cases hj
  |some y=>
   rw[hx] at hj;injection hj with hj;injection hj with e1 e2;obtain⟨u,q1,q2,o,q3,q4⟩:=hc j y.1 y.2 hx;refine⟨u,q1,q2,_,by rw[<-e1];exact zR q3,fun cs e=> ?_⟩;obtain⟨cs',e'⟩:=tK.2.2.2.1 _ e;obtain⟨b,q5,q6⟩:=q4 cs' e';exact⟨b,by rw[<-e1];exact zS hl q5,by rw[<-e2];exact q6⟩
theorem Vy(hl:nW.length=bq.length){cs:List C}{vs:List Value}(h:dF w σ (own::bq::Ω) (bo::nW::bΩ) cs vs):
 dF w σ ((bq++own.map (Obj.mg bq.length))::Ω) ((nW++bo)::bΩ) (cs.map (C.mg bq.length)) vs:=by
 refine⟨by rw[ai];exact h.1,fun j x hj=> ?_⟩;rw[be] at hj
 cases hx:cs[j]? with
 |none=>rw[hx] at hj;cases hj
 |some y=>
  rw[hx] at hj;cases hj;obtain⟨v,h1,h2,h3⟩:=h.2 j y hx;exact⟨v,h1,abX hl h2,h3⟩
theorem ajN(hl:nW.length=bq.length){x:V}{v:Value}(h:bJ w σ (own::bq::Ω) (bo::nW::bΩ) x v):
 bJ w σ ((bq++own.map (Obj.mg bq.length))::Ω) ((nW++bo)::bΩ) (x.mg bq.length) v:=by
 cases x with
 |c x=>exact⟨abX hl h.1,h.2⟩
 |agg cs=>obtain⟨a,ha,hc⟩:=h;exact⟨a,ha,Vy hl hc⟩
 |any=>exact trivial
 |dI xs=>
  obtain⟨a,ha,hlen,hc⟩:=h;refine⟨a,ha,by rw[ai];exact hlen,fun j y hj=> ?_⟩;rw[be] at hj
  cases hx:xs[j]? with
  |none=>rw[hx] at hj;cases hj
  |some z=>
   rw[hx] at hj;cases hj;obtain⟨u,hu,hr⟩:=hc j z hx;refine⟨u,hu,?_⟩;obtain⟨b,cs⟩:=z
   cases b with
   |true=>obtain⟨a',e,hcs⟩:=hr;exact⟨a',e,Vy hl hcs⟩
   |false=>obtain⟨x1,e,hx1,ho⟩:=hr;subst e;exact⟨_,rfl,abX hl hx1,ho⟩
theorem Tn(hl:nW.length=bq.length):Keep (bq::Ω) (nW::bΩ) ((bq++own.map (Obj.mg bq.length))::Ω) ((nW++bo)::bΩ):=by
 rintro⟨l,j⟩ o h
 cases l with
 |zero=>
  rw[aD] at h;have hj:=(ae.1 h).1;refine⟨o,by rw[aD,an hj];exact h,?_⟩;rw[aD,aD,an (by omega)];exact jQ.refl _ _
 |succ l=>
  rw[aV] at h;exact⟨o,by rw[aV];exact h,by rw[aV,aV];exact jQ.refl _ _⟩
theorem ajO(hS:cZ w σ (own::bq::Ω) (bo::nW::bΩ)):cZ w σ ((bq++own.map (Obj.mg bq.length))::Ω) ((nW++bo)::bΩ):=by
 have hlo:bo.length=own.length:=by
  obtain⟨gr,h1,h2⟩:=hS.shape.2 0 own rfl;simp at h1;rw[h1];exact h2
 have hl:nW.length=bq.length:=by
  obtain⟨gr,h1,h2⟩:=hS.shape.2 1 bq rfl;simp at h1;rw[h1];exact h2
 have hn:bQ w σ w σ:=bQ.refl _ _;refine⟨fun k o ho=> ?_,fun k k' o o' h h' b e1 e2 e3 e4 e5 e6=> ?_,⟨by have:=hS.shape.1;simpa using this,fun l fr hfr=> ?_⟩,hS.live,hS.lX⟩
 ·obtain⟨k0,o0,hk,ho0,rfl,hh⟩:=Fu (bo:=bo) (bΩ:=bΩ) hl hlo ho;obtain⟨h,h1,h2⟩:=hS.obj k0 o0 ho0;refine⟨h,by rw[hh];exact h1,?_⟩;obtain⟨l0,j0⟩:=k0
  cases l0 with
  |zero=>
   subst hk;have h2:eT w σ (own::bq::Ω) (bo::nW::bΩ) o0 h:=h2;show eT w σ ((bq++own.map (Obj.mg bq.length))::Ω) ((nW++bo)::bΩ) (o0.mg bq.length) h
   cases o0 with
   |box cs=>
    obtain⟨b,c,t,e,q1,q2,q3⟩:=h2;exact⟨b,c,t,e,q1,q2,Vy hl q3⟩
   |dead=>exact trivial
   |tok aJ es=>exact h2
   |bU aJ es=>exact h2
   |mp m=>exact h2
   |dY n aJ es=>exact h2
   |seed n=>exact trivial
   |xf rs=>exact h2
  |succ l0=>
   have hk':k=(l0,j0):=hk.symm;subst hk';have h2:eT w σ ((bq::Ω).drop l0) ((nW::bΩ).drop l0) o0 h:=h2;exact h2.mono hn ((Tn hl).drop l0) fun _ _=>⟨rfl,rfl⟩
 ·obtain⟨k0,o0,hk,ho0,ho,hh⟩:=Fu (bo:=bo) (bΩ:=bΩ) hl hlo e1;obtain⟨k1,o1,hk1,ho1,ho',CG⟩:=Fu (bo:=bo) (bΩ:=bΩ) hl hlo e4;rw[hh] at e2;rw[CG] at e5
  have b0:owns o0 h b:=by
   rw[ho] at e3;split at e3
   ·rw[KQ] at e3;exact e3
   ·exact e3
  have b1:owns o1 h' b:=by
   rw[ho'] at e6;split at e6
   ·rw[KQ] at e6;exact e6
   ·exact e6
  have:=hS.apart k0 k1 o0 o1 h h' b ho0 e2 b0 ho1 e5 b1;rw[<-hk,<-hk1,this]
 ·cases l with
  |zero=>
   simp at hfr;exact⟨_,rfl,by rw[<-hfr];simp[hl,hlo]⟩
  |succ l=>exact hS.shape.2 (l+2) fr (by simpa using hfr)
theorem agC(hS:cZ w σ (own::bq::Ω) (bo::nW::bΩ)){b:Nat}(h:Own ((bq++own.map (Obj.mg bq.length))::Ω) ((nW++bo)::bΩ) b):Own (own::bq::Ω) (bo::nW::bΩ) b:=by
 have hlo:bo.length=own.length:=by
  obtain⟨gr,h1,h2⟩:=hS.shape.2 0 own rfl;simp at h1;rw[h1];exact h2
 have hl:nW.length=bq.length:=by
  obtain⟨gr,h1,h2⟩:=hS.shape.2 1 bq rfl;simp at h1;rw[h1];exact h2
 obtain⟨k,o,hv,e1,e2,e3⟩:=h;obtain⟨k0,o0,hk,ho0,ho,hh⟩:=Fu (bo:=bo) (bΩ:=bΩ) hl hlo e1;rw[hh] at e2;refine⟨k0,o0,hv,ho0,e2,?_⟩;rw[ho] at e3;split at e3
 ·rw[KQ] at e3;exact e3
 ·exact e3
end
def PD(P:Program)(rs:List ResultVar)(post:V->Store->Prop)(e:Exit)(s:St):Prop:=
 match e with
 | .normal| .ret=>(lY P rs s).1/\match s.st with
   |own::bq::Ω=>post ((lY P rs s).2.mg bq.length) ((bq++own.map (Obj.mg bq.length))::Ω)
   |_=>False
 |_=>False
section
variable {P:Program} {N:Nat} {s:St}
theorem LW{f:FuncId}{fn:Func}{c:Code}{args:List V}{bq:List Obj}{Ω:Store}{post:V->Store->Prop}(hf:P.funcs[f]? =some fn)(hb:fn.body=some c)(hn:(fn.name== "runtime.NumGoroutine")=false)
 (hl:args.length<=fn.ntmps)(h:AW P fn.ntmps c (PD P fn.results.toList post) ⟨jR (args.map (V.up 1)) 0,[]::bq::Ω⟩):bL P f args (bq::Ω) post:=by
 refine⟨⟨fn,hf,hn,by simp[hb]⟩,fun w σ β vs hS hargs=> ?_⟩;refine calls_of_wp hf hb ?_;have hlen:vs.length=args.length:=hargs.1.symm
 have Ov:iI fn.ntmps ⟨jR (args.map (V.up 1)) 0,[]::bq::Ω⟩ {tmps:=vs.toArray++Array.replicate (fn.ntmps-vs.toArray.size) undef,defers:=[]} w σ ([]::β):=by
  refine⟨by simp;omega,rfl,hS.up1,fun t=> ?_⟩;show bJ w σ ([]::bq::Ω) ([]::β) (look (jR (args.map (V.up 1)) 0) t) _;rw[xV,if_pos (ba _),Nat.sub_zero,be]
  cases ha:args[t]? with
  |none=>exact trivial
  |some x=>
   obtain⟨v,hv,hr⟩:=hargs.2 t x ha;have ht:=(ae.1 hv).1
   have:(vs.toArray++Array.replicate (fn.ntmps-vs.toArray.size) undef).getD t undef=v:=by
    rw[dq,cC (by simpa using ht)];simp[hv]
   rw[this];exact Kw (S:=[]::bq::Ω) (β:=[]::β) 1 hr
 refine wp_mono (h _ w σ ([]::β) Ov) ?_;rintro e a' w' ⟨s',σ',β',hR,hst,hkp,hq⟩
 have main:((lY P fn.results.toList s').1/\match s'.st with
  |own::bq::Ω=>post ((lY P fn.results.toList s').2.mg bq.length) ((bq++own.map (Obj.mg bq.length))::Ω)
  |_=>False)->
   a'.defers=[]/\∃v,(results fn a'.tmps).run P w'=.ok v w'/\∃v_1 r S' σ' β',Ending.returned v=Ending.returned v_1/\cZ w' σ' S' β'/\Keep (bq::Ω) β S' β'/\Step (bq::Ω) β σ w S' β' σ' w'/\bJ w' σ' S' β' r v_1/\post r S':=by
  rintro⟨q1,q2⟩;obtain⟨v,hv,hrep⟩:=Dp (fn:=fn) hR q1;obtain⟨tm,st⟩:=s';simp only at q2;split at q2
  ·rename_i own Vz Ω1;obtain⟨bo,bΩ',rfl,hlo⟩:=frames hR
   cases bΩ' with
   |nil=>have:=hR.S.shape.1;simp at this
   |cons bo1 bΩ1=>
    have hl1:bo1.length=Vz.length:=by
     obtain⟨gr,h1,h2⟩:=hR.S.shape.2 1 Vz rfl;simp at h1;rw[h1];exact h2
    have u7:Keep (bq::Ω) β (Vz::Ω1) (bo1::bΩ1):=hkp;have hst':Step ([]::bq::Ω) ([]::β) σ w (own::Vz::Ω1) (bo::bo1::bΩ1) σ' w':=hst;exact⟨hR.defers,v,hv,v,_,_,σ',_,rfl,ajO hR.S,u7.trans (Tn hl1),⟨hst'.size,hst'.os,hst'.output,fun b hb ho=>hst'.far b hb (fun x=>ho (yC x)),hst'.near,fun b hb=>(hst'.own b (agC hR.S hb)).imp yC id⟩,ajN hl1 hrep,q2⟩
  ·exact q2.elim
 cases e with
 |normal=>exact main hq
 |ret=>exact main hq
 |_=>exact hq.elim
def PE(P:Program)(rs:List ResultVar)(post:V->Store->Prop)(s:St)(r:R):Prop:=r.1/\match s.st with
 |own::bq::Ω=>post (r.2.mg bq.length) ((bq++own.map (Obj.mg bq.length))::Ω)
 |_=>False
@[congr] theorem aix {rs:List ResultVar} {post:V->Store->Prop} {s s':St} {r r':R} (h1:s=s') (h2:r=r'):PE P rs post s r=PE P rs post s' r':=by rw[h1,h2]
theorem abY{rs:List ResultVar}{post:V->Store->Prop}{tm:List (Nat×V)}{S:Store}:PD P rs post .ret ⟨tm,S⟩=PE P rs post ⟨tm,S⟩ (lY P rs ⟨tm,S⟩):=rfl
theorem R6{rs:List ResultVar}{post:V->Store->Prop}{tm:List (Nat×V)}{S:Store}:PD P rs post .normal ⟨tm,S⟩=PE P rs post ⟨tm,S⟩ (lY P rs ⟨tm,S⟩):=rfl
theorem aeW{rs:List ResultVar}{post:V->Store->Prop}{tm:List (Nat×V)}{own bq:List Obj}{Ω:Store}{p:Prop}{v:V}:
 PE P rs post ⟨tm,own::bq::Ω⟩ (p,v)=(p/\post (v.mg bq.length) ((bq++own.map (Obj.mg bq.length))::Ω)):=rfl
theorem LX{f:FuncId}{fn:Func}{c:Code}{args:List V}{bq:List Obj}{Ω:Store}{post:V->Store->Prop}{rs:List ResultVar}(dZ:P.follows .mixedOrders=true)(hf:P.funcs[f]? =some fn)(hN:fn.ntmps=N)
 (hb:fn.body=some c) (hn:(fn.name== "runtime.NumGoroutine")=false) (hr:fn.results.toList=rs) (hl:Nat.ble args.length N=true) (hok:codeOk N c=true)
 (h:CW P N c (PD P rs post) ⟨jR (args.map (V.up 1)) 0,[]::bq::Ω⟩):bL P f args (bq::Ω) post:=by
 subst hN;subst hr;exact LW hf hb hn (cX hl) (iV dZ c _ _ hok h)
theorem mgK_0{n j:Nat}:Bb n (0,j)=(0,n+j):=rfl
theorem mgK_1{n l j:Nat}:Bb n (1+l,j)=(l,j):=by rw[dE];rfl
end
attribute [go_sem ↓] abY R6
attribute [go_sem] aeW V.mg C.mg Obj.mg mgK_0 mgK_1
end Go.Ab