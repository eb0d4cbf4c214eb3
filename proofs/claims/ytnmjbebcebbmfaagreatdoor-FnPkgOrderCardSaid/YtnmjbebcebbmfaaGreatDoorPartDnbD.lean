/-
  SEVERAL TEXTS IN ONE (merged by program): contracts and models, each with its own heading.
-/
import Derived.Test.YtnmjbebcebbmfaaGreatDoorPartDnbC
set_option linter.unusedSimpArgs false
set_option linter.unusedVariables false
namespace Go.Ab
def JD(n:Nat):Key->Key
 |(0,j)=>(0,n+j)
 |(l+1,j)=>(l,j)
def C.mg(n:Nat):C->C
 | .d x=>.d x
 | .any=>.any
 | .bJ k es=>.bJ (JD n k) es
 | .bH es=>.bH es
 | .ptr k off=>.ptr (JD n k) off
 | .om cs=>.om cs
 | .nM k i off=>.nM (JD n k) i off
 | .jO k=>.jO (JD n k)
 | .fn f caps=>.fn f (caps.map fun x=>(JD n x.1,x.2))
 | .mp k=>.mp (JD n k)
 | .mE m es=>.mE m es
 | .xp k r p=>.xp (JD n k) r p
 | .xq k r p z i off=>.xq (JD n k) r p z i off
def V.mg(n:Nat):V->V
 | .c x=>.c (x.mg n)
 | .agg cs=>.agg (cs.map (C.mg n))
 | .eu xs=>.eu (xs.map fun y=>(y.1,y.2.map (C.mg n)))
 | .any=>.any
def Obj.mg(n:Nat):Obj->Obj
 | .box cs=>.box (cs.map (C.mg n))
 |o=>o
section
variable {P:Program} {w:World} {σ:Nat->Nat} {own bY:List Obj} {Ω:Store} {bo uJ:List Value} {bΩ:Hs}
theorem Um{n:Nat}{o:Obj}{h:Value}{b:Nat}:owns (o.mg n) h b<->owns o h b:=by
 cases o with
 |box cs=>
  cases h with
  |pointer a=>cases a<;>exact Iff.rfl
  |_=>exact Iff.rfl
 |_=>exact Iff.rfl
theorem Ii{k:Key}{o:Obj}(h:bC (own::bY::Ω) k=some o):
 bC ((bY++own.map (Obj.mg bY.length))::Ω) (JD bY.length k)=some (if k.1=0 then o.mg bY.length else o):=by
 obtain⟨l,j⟩:=k
 cases l with
 |zero=>
  rw[bM] at h;show bC _ (0,bY.length+j)=_;rw[bM,ag gA,show bY.length+j-bY.length=j by omega,bE,h];rfl
 |succ l=>
  rw[dG] at h;show bC _ (l,j)=some o
  cases l with
  |zero=>
   rw[bM] at h ⊢;rw[aq (ap.1 h).1];exact h
  |succ l=>rw[dG] at h ⊢;exact h
theorem Ij(hl:uJ.length=bY.length){k:Key}{h:Value}(e:bC (bo::uJ::bΩ) k=some h):bC ((uJ++bo)::bΩ) (JD bY.length k)=some h:=by
 obtain⟨l,j⟩:=k
 cases l with
 |zero=>
  rw[bM] at e;show bC _ (0,bY.length+j)=_;rw[bM,ag gA,show bY.length+j-uJ.length=j by omega,e]
 |succ l=>
  rw[dG] at e;show bC _ (l,j)=some h
  cases l with
  |zero=>
   rw[bM] at e ⊢;rw[aq (ap.1 e).1];exact e
  |succ l=>rw[dG] at e ⊢;exact e
theorem Oe(hl:uJ.length=bY.length)(hlo:bo.length=own.length){k:Key}{o:Obj}(h:bC ((bY++own.map (Obj.mg bY.length))::Ω) k=some o):
 ∃k0 o0,JD bY.length k0=k/\bC (own::bY::Ω) k0=some o0/\o=(if k0.1=0 then o0.mg bY.length else o0)/\bC ((uJ++bo)::bΩ) k=bC (bo::uJ::bΩ) k0:=by
 obtain⟨l,j⟩:=k
 cases l with
 |zero=>
  rw[bM] at h;by_cases hj:j<bY.length
  ·rw[aq hj] at h;refine⟨(1,j),o,rfl,by rw[dG,bM];exact h,rfl,?_⟩;rw[bM,dG,bM,aq gA]
  ·rw[ag gA,bE] at h
   cases hx:own[j-bY.length]? with
   |none=>rw[hx] at h;cases h
   |some x=>
    rw[hx] at h;cases h;refine⟨(0,j-bY.length),x,?_,by rw[bM];exact hx,rfl,?_⟩
    ·show(0,bY.length+(j-bY.length))=(0,j);rw[show bY.length+(j-bY.length)=j by omega]
    ·rw[bM,bM,ag gA,hl]
 |succ l=>
  rw[dG] at h;exact⟨(l+2,j),o,rfl,by rw[dG,dG];exact h,rfl,by rw[dG,dG,dG]⟩
theorem Av{n:Nat}{k:Key}{o:Obj}:(∀bB es,wC (if k.1=0 then o.mg n else o) bB es->wC o bB es)/\(∀bB es,(if k.1=0 then o.mg n else o)=.fM bB es->o=.fM bB es)/\
 (∀m,(if k.1=0 then o.mg n else o)=.mp m->o=.mp m)/\(∀cs,(if k.1=0 then o.mg n else o)=.box cs->∃cs',o=.box cs')/\(∀rs,(if k.1=0 then o.mg n else o)=.xf rs->o=.xf rs):=by
 by_cases e:k.1=0
 ·simp only[if_pos e];cases o<;>simp[Obj.mg,wC]
 ·simp only[if_neg e];exact⟨fun _ _ h=>h,fun _ _ h=>h,fun _ h=>h,fun cs h=>⟨cs,h⟩,fun _ h=>h⟩
theorem alb(hl:uJ.length=bY.length){c:C}{v:Value}(h:jc w σ (own::bY::Ω) (bo::uJ::bΩ) c v):
 jc w σ ((bY++own.map (Obj.mg bY.length))::Ω) ((uJ++bo)::bΩ) (c.mg bY.length) v:=by
 cases c with
 |d x=>exact h
 |any=>exact trivial
 |bH es=>exact h
 |om cs=>exact h
 |mE m es=>exact h
 |xp k r p=>
  obtain⟨o,ho,h2⟩:=h;refine⟨_,Ii ho,fun rs e=> ?_⟩;obtain⟨hh,q1,q2⟩:=h2 rs (Av.2.2.2.2 _ e);exact⟨hh,Ij hl q1,q2⟩
 |xq k r p z i off=>
  obtain⟨o,ho,h2⟩:=h;refine⟨_,Ii ho,fun rs e=> ?_⟩;obtain⟨hh,b,a,n,cap,q1,q2⟩:=h2 rs (Av.2.2.2.2 _ e);exact⟨hh,b,a,n,cap,Ij hl q1,q2⟩
 |bJ k es=>
  obtain⟨h1,o,ho,h2⟩:=h;refine⟨h1,_,Ii ho,fun bB es' e=> ?_⟩;obtain⟨q1,q2⟩:=h2 bB es' (Av.1 _ _ e);exact⟨q1,fun e'=>Ij hl (q2 e')⟩
 |ptr k off=>
  obtain⟨o,ho,h2⟩:=h;refine⟨_,Ii ho,fun cs e=> ?_⟩;obtain⟨cs',e'⟩:=Av.2.2.2.1 _ e;obtain⟨b,q1,q2⟩:=h2 cs' e';exact⟨b,Ij hl q1,q2⟩
 |nM k i off=>
  obtain⟨o,ho,h2⟩:=h;refine⟨_,Ii ho,fun bB es e=> ?_⟩;obtain⟨b,n,cap,q1,q2⟩:=h2 bB es (Av.2.1 _ _ e);exact⟨b,n,cap,Ij hl q1,q2⟩
 |jO k=>
  obtain⟨o,ho,h2⟩:=h;exact⟨_,Ii ho,fun bB es e=>Ij hl (h2 bB es (Av.2.1 _ _ e))⟩
 |mp k=>
  obtain⟨o,ho,h2⟩:=h;exact⟨_,Ii ho,fun m e=>Ij hl (h2 m (Av.2.2.1 _ e))⟩
 |fn f caps=>
  obtain⟨vs,e,hsz,hc⟩:=h;refine⟨vs,e,by rw[hsz,ab],fun j k off hj=> ?_⟩;rw[bE] at hj
  cases hx:caps[j]? with
  |none=>rw[hx] at hj;cases hj
  |some y=>
   rw[hx] at hj;injection hj with hj;injection hj with e1 e2;obtain⟨u,q1,q2,o,q3,q4⟩:=hc j y.1 y.2 hx;refine⟨u,q1,q2,_,by rw[<-e1];exact Ii q3,fun cs e=> ?_⟩;obtain⟨cs',e'⟩:=Av.2.2.2.1 _ e;obtain⟨b,q5,q6⟩:=q4 cs' e';exact⟨b,by rw[<-e1];exact Ij hl q5,by rw[<-e2];exact q6⟩
theorem aeO(hl:uJ.length=bY.length){cs:List C}{vs:List Value}(h:gN w σ (own::bY::Ω) (bo::uJ::bΩ) cs vs):
 gN w σ ((bY++own.map (Obj.mg bY.length))::Ω) ((uJ++bo)::bΩ) (cs.map (C.mg bY.length)) vs:=by
 refine⟨by rw[ab];exact h.1,fun j x hj=> ?_⟩;rw[bE] at hj
 cases hx:cs[j]? with
 |none=>rw[hx] at hj;cases hj
 |some y=>
  rw[hx] at hj;cases hj;obtain⟨v,h1,h2,h3⟩:=h.2 j y hx;exact⟨v,h1,alb hl h2,h3⟩
theorem avD(hl:uJ.length=bY.length){x:V}{v:Value}(h:dR w σ (own::bY::Ω) (bo::uJ::bΩ) x v):
 dR w σ ((bY++own.map (Obj.mg bY.length))::Ω) ((uJ++bo)::bΩ) (x.mg bY.length) v:=by
 cases x with
 |c x=>exact⟨alb hl h.1,h.2⟩
 |agg cs=>obtain⟨a,ha,hc⟩:=h;exact⟨a,ha,aeO hl hc⟩
 |any=>exact trivial
 |eu xs=>
  obtain⟨a,ha,hlen,hc⟩:=h;refine⟨a,ha,by rw[ab];exact hlen,fun j y hj=> ?_⟩;rw[bE] at hj
  cases hx:xs[j]? with
  |none=>rw[hx] at hj;cases hj
  |some z=>
   rw[hx] at hj;cases hj;obtain⟨u,hu,hr⟩:=hc j z hx;refine⟨u,hu,?_⟩;obtain⟨b,cs⟩:=z
   cases b with
   |true=>obtain⟨a',e,hcs⟩:=hr;exact⟨a',e,aeO hl hcs⟩
   |false=>obtain⟨x1,e,hx1,ho⟩:=hr;subst e;exact⟨_,rfl,alb hl hx1,ho⟩
theorem acP(hl:uJ.length=bY.length):Keep (bY::Ω) (uJ::bΩ) ((bY++own.map (Obj.mg bY.length))::Ω) ((uJ++bo)::bΩ):=by
 rintro⟨l,j⟩ o h
 cases l with
 |zero=>
  rw[bM] at h;have hj:=(ap.1 h).1;refine⟨o,by rw[bM,aq hj];exact h,?_⟩;rw[bM,bM,aq gA];exact nZ.refl _ _
 |succ l=>
  rw[dG] at h;exact⟨o,by rw[dG];exact h,by rw[dG,dG];exact nZ.refl _ _⟩
theorem avE(hS:fC w σ (own::bY::Ω) (bo::uJ::bΩ)):fC w σ ((bY++own.map (Obj.mg bY.length))::Ω) ((uJ++bo)::bΩ):=by
 have hlo:bo.length=own.length:=by
  obtain⟨gr,h1,h2⟩:=hS.shape.2 0 own rfl;simp at h1;rw[h1];exact h2
 have hl:uJ.length=bY.length:=by
  obtain⟨gr,h1,h2⟩:=hS.shape.2 1 bY rfl;simp at h1;rw[h1];exact h2
 have hn:eH w σ w σ:=eH.refl _ _;refine⟨fun k o ho=> ?_,fun k k' o o' h h' b e1 e2 e3 e4 e5 e6=> ?_,⟨by have:=hS.shape.1;simpa using this,fun l fr hfr=> ?_⟩,hS.live,hS.vH⟩
 ·obtain⟨k0,o0,hk,ho0,rfl,hh⟩:=Oe (bo:=bo) (bΩ:=bΩ) hl hlo ho;obtain⟨h,h1,h2⟩:=hS.obj k0 o0 ho0;refine⟨h,by rw[hh];exact h1,?_⟩;obtain⟨l0,j0⟩:=k0
  cases l0 with
  |zero=>
   subst hk;have h2:iI w σ (own::bY::Ω) (bo::uJ::bΩ) o0 h:=h2;show iI w σ ((bY++own.map (Obj.mg bY.length))::Ω) ((uJ++bo)::bΩ) (o0.mg bY.length) h
   cases o0 with
   |box cs=>
    obtain⟨b,c,t,e,q1,q2,q3⟩:=h2;exact⟨b,c,t,e,q1,q2,aeO hl q3⟩
   |dead=>exact trivial
   |tok bB es=>exact h2
   |fM bB es=>exact h2
   |mp m=>exact h2
   |eP n bB es=>exact h2
   |seed n=>exact trivial
   |xf rs=>exact h2
  |succ l0=>
   have hk':k=(l0,j0):=hk.symm;subst hk';have h2:iI w σ ((bY::Ω).drop l0) ((uJ::bΩ).drop l0) o0 h:=h2;exact h2.mono hn ((acP hl).drop l0) fun _ _=>⟨rfl,rfl⟩
 ·obtain⟨k0,o0,hk,ho0,ho,hh⟩:=Oe (bo:=bo) (bΩ:=bΩ) hl hlo e1;obtain⟨k1,o1,hk1,ho1,ho',Lh⟩:=Oe (bo:=bo) (bΩ:=bΩ) hl hlo e4;rw[hh] at e2;rw[Lh] at e5
  have b0:owns o0 h b:=by
   rw[ho] at e3;split at e3
   ·rw[Um] at e3;exact e3
   ·exact e3
  have b1:owns o1 h' b:=by
   rw[ho'] at e6;split at e6
   ·rw[Um] at e6;exact e6
   ·exact e6
  have:=hS.apart k0 k1 o0 o1 h h' b ho0 e2 b0 ho1 e5 b1;rw[<-hk,<-hk1,this]
 ·cases l with
  |zero=>
   simp at hfr;exact⟨_,rfl,by rw[<-hfr];simp[hl,hlo]⟩
  |succ l=>exact hS.shape.2 (l+2) fr (by simpa using hfr)
theorem aqV(hS:fC w σ (own::bY::Ω) (bo::uJ::bΩ)){b:Nat}(h:Own ((bY++own.map (Obj.mg bY.length))::Ω) ((uJ++bo)::bΩ) b):Own (own::bY::Ω) (bo::uJ::bΩ) b:=by
 have hlo:bo.length=own.length:=by
  obtain⟨gr,h1,h2⟩:=hS.shape.2 0 own rfl;simp at h1;rw[h1];exact h2
 have hl:uJ.length=bY.length:=by
  obtain⟨gr,h1,h2⟩:=hS.shape.2 1 bY rfl;simp at h1;rw[h1];exact h2
 obtain⟨k,o,hv,e1,e2,e3⟩:=h;obtain⟨k0,o0,hk,ho0,ho,hh⟩:=Oe (bo:=bo) (bΩ:=bΩ) hl hlo e1;rw[hh] at e2;refine⟨k0,o0,hv,ho0,e2,?_⟩;rw[ho] at e3;split at e3
 ·rw[Um] at e3;exact e3
 ·exact e3
end
def YX(P:Program)(rs:List ResultVar)(post:V->Store->Prop)(e:Exit)(s:St):Prop:=
 match e with
 | .normal| .ret=>(sj P rs s).1/\match s.st with
   |own::bY::Ω=>post ((sj P rs s).2.mg bY.length) ((bY++own.map (Obj.mg bY.length))::Ω)
   |_=>False
 |_=>False
section
variable {P:Program} {N:Nat} {s:St}
theorem Vm{f:FuncId}{fn:Func}{c:Code}{args:List V}{bY:List Obj}{Ω:Store}{post:V->Store->Prop}(hf:P.funcs[f]? =some fn)(hb:fn.body=some c)(hn:(fn.name== "runtime.NumGoroutine")=false)
 (hl:args.length<=fn.ntmps)(h:AW P fn.ntmps c (YX P fn.results.toList post) ⟨mV (args.map (V.up 1)) 0,[]::bY::Ω⟩):bS P f args (bY::Ω) post:=by
 refine⟨⟨fn,hf,hn,by simp[hb]⟩,fun w σ β vs hS hargs=> ?_⟩;refine calls_of_wp hf hb ?_;have hlen:vs.length=args.length:=hargs.1.symm
 have Yk:lU fn.ntmps ⟨mV (args.map (V.up 1)) 0,[]::bY::Ω⟩ {tmps:=vs.toArray++Array.replicate (fn.ntmps-vs.toArray.size) undef,defers:=[]} w σ ([]::β):=by
  refine⟨gR,rfl,hS.up1,fun t=> ?_⟩;show dR w σ ([]::bY::Ω) ([]::β) (look (mV (args.map (V.up 1)) 0) t) _;rw[Fj,if_pos (an _),Nat.sub_zero,bE]
  cases ha:args[t]? with
  |none=>exact trivial
  |some x=>
   obtain⟨v,hv,hr⟩:=hargs.2 t x ha;have ht:=(ap.1 hv).1
   have:(vs.toArray++Array.replicate (fn.ntmps-vs.toArray.size) undef).getD t undef=v:=by
    rw[eh,cU (by simpa using ht)];simp[hv]
   rw[this];exact NY (S:=[]::bY::Ω) (β:=[]::β) 1 hr
 refine wp_mono (h _ w σ ([]::β) Yk) ?_;rintro e a' w' ⟨s',σ',β',hR,hst,hkp,hq⟩
 have main:((sj P fn.results.toList s').1/\match s'.st with
  |own::bY::Ω=>post ((sj P fn.results.toList s').2.mg bY.length) ((bY++own.map (Obj.mg bY.length))::Ω)
  |_=>False)->
   a'.defers=[]/\∃v,(results fn a'.tmps).run P w'=.ok v w'/\∃v_1 r S' σ' β',Ending.returned v=Ending.returned v_1/\fC w' σ' S' β'/\Keep (bY::Ω) β S' β'/\Step (bY::Ω) β σ w S' β' σ' w'/\dR w' σ' S' β' r v_1/\post r S':=by
  rintro⟨q1,q2⟩;obtain⟨v,hv,hrep⟩:=L8 (fn:=fn) hR q1;obtain⟨tm,st⟩:=s';simp only at q2;split at q2
  ·rename_i own aeP Ω1;obtain⟨bo,bΩ',rfl,hlo⟩:=frames hR
   cases bΩ' with
   |nil=>have:=hR.S.shape.1;simp at this
   |cons bo1 bΩ1=>
    have hl1:bo1.length=aeP.length:=by
     obtain⟨gr,h1,h2⟩:=hR.S.shape.2 1 aeP rfl;simp at h1;rw[h1];exact h2
    have Ct:Keep (bY::Ω) β (aeP::Ω1) (bo1::bΩ1):=hkp;have hst':Step ([]::bY::Ω) ([]::β) σ w (own::aeP::Ω1) (bo::bo1::bΩ1) σ' w':=hst;exact⟨hR.defers,v,hv,v,_,_,σ',_,rfl,avE hR.S,Ct.trans (acP hl1),⟨hst'.size,hst'.os,hst'.output,fun b hb ho=>hst'.far b hb (fun x=>ho (FT x)),hst'.near,fun b hb=>(hst'.own b (aqV hR.S hb)).imp FT id⟩,avD hl1 hrep,q2⟩
  ·exact q2.elim
 cases e with
 |normal=>exact main hq
 |ret=>exact main hq
 |_=>exact hq.elim
def YZ(P:Program)(rs:List ResultVar)(post:V->Store->Prop)(s:St)(r:R):Prop:=r.1/\match s.st with
 |own::bY::Ω=>post (r.2.mg bY.length) ((bY++own.map (Obj.mg bY.length))::Ω)
 |_=>False
@[congr] theorem ato {rs:List ResultVar} {post:V->Store->Prop} {s s':St} {r r':R} (h1:s=s') (h2:r=r'):YZ P rs post s r=YZ P rs post s' r':=by rw[h1,h2]
theorem alc{rs:List ResultVar}{post:V->Store->Prop}{tm:List (Nat×V)}{S:Store}:YX P rs post .ret ⟨tm,S⟩=YZ P rs post ⟨tm,S⟩ (sj P rs ⟨tm,S⟩):=rfl
theorem abx{rs:List ResultVar}{post:V->Store->Prop}{tm:List (Nat×V)}{S:Store}:YX P rs post .normal ⟨tm,S⟩=YZ P rs post ⟨tm,S⟩ (sj P rs ⟨tm,S⟩):=rfl
theorem aoM{rs:List ResultVar}{post:V->Store->Prop}{tm:List (Nat×V)}{own bY:List Obj}{Ω:Store}{p:Prop}{v:V}:
 YZ P rs post ⟨tm,own::bY::Ω⟩ (p,v)=(p/\post (v.mg bY.length) ((bY++own.map (Obj.mg bY.length))::Ω)):=rfl
theorem Mq{f:FuncId}{fn:Func}{c:Code}{args:List V}{bY:List Obj}{Ω:Store}{post:V->Store->Prop}{rs:List ResultVar}(gP:P.follows .mixedOrders=true)(hf:P.funcs[f]? =some fn)(hN:fn.ntmps=N)
 (hb:fn.body=some c) (hn:(fn.name== "runtime.NumGoroutine")=false) (hr:fn.results.toList=rs) (hl:Nat.ble args.length N=true) (hok:codeOk N c=true)
 (h:CW P N c (YX P rs post) ⟨mV (args.map (V.up 1)) 0,[]::bY::Ω⟩):bS P f args (bY::Ω) post:=by
 subst hN;subst hr;exact Vm hf hb hn (dd hl) (lG gP c _ _ hok h)
theorem mgK_0{n j:Nat}:JD n (0,j)=(0,n+j):=rfl
theorem mgK_1{n l j:Nat}:JD n (1+l,j)=(l,j):=by rw[eq];rfl
end
attribute [go_sem ↓] alc abx
attribute [go_sem] aoM V.mg C.mg Obj.mg mgK_0 mgK_1
end Go.Ab