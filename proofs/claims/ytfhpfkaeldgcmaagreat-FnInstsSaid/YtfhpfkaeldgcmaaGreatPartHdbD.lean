/-
  SEVERAL TEXTS IN ONE (merged by program): contracts and models, each with its own heading.
-/
import Derived.Test.YtfhpfkaeldgcmaaGreatPartHdbC
set_option linter.unusedSimpArgs false
set_option linter.unusedVariables false
namespace Go.Ab
def CS(n:Nat):Key->Key
 |(0,j)=>(0,n+j)
 |(l+1,j)=>(l,j)
def C.mg(n:Nat):C->C
 | .d x=>.d x
 | .any=>.any
 | .bX k es=>.bX (CS n k) es
 | .bI es=>.bI es
 | .ptr k off=>.ptr (CS n k) off
 | .kV cs=>.kV cs
 | .kI k i off=>.kI (CS n k) i off
 | .iH k=>.iH (CS n k)
 | .fn f caps=>.fn f (caps.map fun x=>(CS n x.1,x.2))
 | .mp k=>.mp (CS n k)
 | .nu m es=>.nu m es
 | .xp k r p=>.xp (CS n k) r p
 | .xq k r p z i off=>.xq (CS n k) r p z i off
def V.mg(n:Nat):V->V
 | .c x=>.c (x.mg n)
 | .agg cs=>.agg (cs.map (C.mg n))
 | .eH xs=>.eH (xs.map fun y=>(y.1,y.2.map (C.mg n)))
 | .any=>.any
def Obj.mg(n:Nat):Obj->Obj
 | .box cs=>.box (cs.map (C.mg n))
 |o=>o
section
variable {P:Program} {w:World} {σ:Nat->Nat} {own cO:List Obj} {Ω:Store} {bo oW:List Value} {bΩ:Hs}
theorem Ma{n:Nat}{o:Obj}{h:Value}{b:Nat}:owns (o.mg n) h b<->owns o h b:=by
 cases o with
 |box cs=>
  cases h with
  |pointer a=>cases a<;>exact Iff.rfl
  |_=>exact Iff.rfl
 |_=>exact Iff.rfl
theorem Bt{k:Key}{o:Obj}(h:bg (own::cO::Ω) k=some o):
 bg ((cO++own.map (Obj.mg cO.length))::Ω) (CS cO.length k)=some (if k.1=0 then o.mg cO.length else o):=by
 obtain⟨l,j⟩:=k
 cases l with
 |zero=>
  rw[bD] at h;show bg _ (0,cO.length+j)=_;rw[bD,List.getElem?_append_right (by omega),show cO.length+j-cO.length=j by omega,List.getElem?_map,h];rfl
 |succ l=>
  rw[bY] at h;show bg _ (l,j)=some o
  cases l with
  |zero=>
   rw[bD] at h ⊢;rw[List.getElem?_append_left (List.getElem?_eq_some_iff.1 h).1];exact h
  |succ l=>rw[bY] at h ⊢;exact h
theorem Bu(hl:oW.length=cO.length){k:Key}{h:Value}(e:bg (bo::oW::bΩ) k=some h):bg ((oW++bo)::bΩ) (CS cO.length k)=some h:=by
 obtain⟨l,j⟩:=k
 cases l with
 |zero=>
  rw[bD] at e;show bg _ (0,cO.length+j)=_;rw[bD,List.getElem?_append_right (by omega),show cO.length+j-oW.length=j by omega,e]
 |succ l=>
  rw[bY] at e;show bg _ (l,j)=some h
  cases l with
  |zero=>
   rw[bD] at e ⊢;rw[List.getElem?_append_left (List.getElem?_eq_some_iff.1 e).1];exact e
  |succ l=>rw[bY] at e ⊢;exact e
theorem GR(hl:oW.length=cO.length)(hlo:bo.length=own.length){k:Key}{o:Obj}(h:bg ((cO++own.map (Obj.mg cO.length))::Ω) k=some o):
 ∃k0 o0,CS cO.length k0=k/\bg (own::cO::Ω) k0=some o0/\o=(if k0.1=0 then o0.mg cO.length else o0)/\bg ((oW++bo)::bΩ) k=bg (bo::oW::bΩ) k0:=by
 obtain⟨l,j⟩:=k
 cases l with
 |zero=>
  rw[bD] at h;by_cases hj:j<cO.length
  ·rw[List.getElem?_append_left hj] at h;refine⟨(1,j),o,rfl,by rw[bY,bD];exact h,rfl,?_⟩;rw[bD,bY,bD,List.getElem?_append_left (by omega)]
  ·rw[List.getElem?_append_right (by omega),List.getElem?_map] at h
   cases hx:own[j-cO.length]? with
   |none=>rw[hx] at h;cases h
   |some x=>
    rw[hx] at h;cases h;refine⟨(0,j-cO.length),x,?_,by rw[bD];exact hx,rfl,?_⟩
    ·show(0,cO.length+(j-cO.length))=(0,j);rw[show cO.length+(j-cO.length)=j by omega]
    ·rw[bD,bD,List.getElem?_append_right (by omega),hl]
 |succ l=>
  rw[bY] at h;exact⟨(l+2,j),o,rfl,by rw[bY,bY];exact h,rfl,by rw[bY,bY,bY]⟩
theorem vF{n:Nat}{k:Key}{o:Obj}:(∀aY es,qP (if k.1=0 then o.mg n else o) aY es->qP o aY es)/\(∀aY es,(if k.1=0 then o.mg n else o)=.eO aY es->o=.eO aY es)/\
 (∀m,(if k.1=0 then o.mg n else o)=.mp m->o=.mp m)/\(∀cs,(if k.1=0 then o.mg n else o)=.box cs->∃cs',o=.box cs')/\(∀rs,(if k.1=0 then o.mg n else o)=.xf rs->o=.xf rs):=by
 by_cases e:k.1=0
 ·simp only[if_pos e];cases o<;>simp[Obj.mg,qP]
 ·simp only[if_neg e];exact⟨fun _ _ h=>h,fun _ _ h=>h,fun _ h=>h,fun cs h=>⟨cs,h⟩,fun _ h=>h⟩
theorem acz(hl:oW.length=cO.length){c:C}{v:Value}(h:gF w σ (own::cO::Ω) (bo::oW::bΩ) c v):
 gF w σ ((cO++own.map (Obj.mg cO.length))::Ω) ((oW++bo)::bΩ) (c.mg cO.length) v:=by
 cases c with
 |d x=>exact h
 |any=>exact trivial
 |bI es=>exact h
 |kV cs=>exact h
 |nu m es=>exact h
 |xp k r p=>
  obtain⟨o,ho,h2⟩:=h;refine⟨_,Bt ho,fun rs e=> ?_⟩;obtain⟨hh,q1,q2⟩:=h2 rs (vF.2.2.2.2 _ e);exact⟨hh,Bu hl q1,q2⟩
 |xq k r p z i off=>
  obtain⟨o,ho,h2⟩:=h;refine⟨_,Bt ho,fun rs e=> ?_⟩;obtain⟨hh,b,a,n,cap,q1,q2⟩:=h2 rs (vF.2.2.2.2 _ e);exact⟨hh,b,a,n,cap,Bu hl q1,q2⟩
 |bX k es=>
  obtain⟨h1,o,ho,h2⟩:=h;refine⟨h1,_,Bt ho,fun aY es' e=> ?_⟩;obtain⟨q1,q2⟩:=h2 aY es' (vF.1 _ _ e);exact⟨q1,fun e'=>Bu hl (q2 e')⟩
 |ptr k off=>
  obtain⟨o,ho,h2⟩:=h;refine⟨_,Bt ho,fun cs e=> ?_⟩;obtain⟨cs',e'⟩:=vF.2.2.2.1 _ e;obtain⟨b,q1,q2⟩:=h2 cs' e';exact⟨b,Bu hl q1,q2⟩
 |kI k i off=>
  obtain⟨o,ho,h2⟩:=h;refine⟨_,Bt ho,fun aY es e=> ?_⟩;obtain⟨b,n,cap,q1,q2⟩:=h2 aY es (vF.2.1 _ _ e);exact⟨b,n,cap,Bu hl q1,q2⟩
 |iH k=>
  obtain⟨o,ho,h2⟩:=h;exact⟨_,Bt ho,fun aY es e=>Bu hl (h2 aY es (vF.2.1 _ _ e))⟩
 |mp k=>
  obtain⟨o,ho,h2⟩:=h;exact⟨_,Bt ho,fun m e=>Bu hl (h2 m (vF.2.2.1 _ e))⟩
 |fn f caps=>
  obtain⟨vs,e,hsz,hc⟩:=h;refine⟨vs,e,by rw[hsz,List.length_map],fun j k off hj=> ?_⟩;rw[List.getElem?_map] at hj
  cases hx:caps[j]? with
  |none=>rw[hx] at hj;cases hj
  |some y=>
   rw[hx] at hj;injection hj with hj;injection hj with e1 e2;obtain⟨u,q1,q2,o,q3,q4⟩:=hc j y.1 y.2 hx;refine⟨u,q1,q2,_,by rw[<-e1];exact Bt q3,fun cs e=> ?_⟩;obtain⟨cs',e'⟩:=vF.2.2.2.1 _ e;obtain⟨b,q5,q6⟩:=q4 cs' e';exact⟨b,by rw[<-e1];exact Bu hl q5,by rw[<-e2];exact q6⟩
theorem Wj(hl:oW.length=cO.length){cs:List C}{vs:List Value}(h:fD w σ (own::cO::Ω) (bo::oW::bΩ) cs vs):
 fD w σ ((cO++own.map (Obj.mg cO.length))::Ω) ((oW++bo)::bΩ) (cs.map (C.mg cO.length)) vs:=by
 refine⟨by rw[List.length_map];exact h.1,fun j x hj=> ?_⟩;rw[List.getElem?_map] at hj
 cases hx:cs[j]? with
 |none=>rw[hx] at hj;cases hj
 |some y=>
  rw[hx] at hj;cases hj;obtain⟨v,h1,h2,h3⟩:=h.2 j y hx;exact⟨v,h1,acz hl h2,h3⟩
theorem alu(hl:oW.length=cO.length){x:V}{v:Value}(h:dP w σ (own::cO::Ω) (bo::oW::bΩ) x v):
 dP w σ ((cO++own.map (Obj.mg cO.length))::Ω) ((oW++bo)::bΩ) (x.mg cO.length) v:=by
 cases x with
 |c x=>exact⟨acz hl h.1,h.2⟩
 |agg cs=>obtain⟨a,ha,hc⟩:=h;exact⟨a,ha,Wj hl hc⟩
 |any=>exact trivial
 |eH xs=>
  obtain⟨a,ha,hlen,hc⟩:=h;refine⟨a,ha,by rw[List.length_map];exact hlen,fun j y hj=> ?_⟩;rw[List.getElem?_map] at hj
  cases hx:xs[j]? with
  |none=>rw[hx] at hj;cases hj
  |some z=>
   rw[hx] at hj;cases hj;obtain⟨u,hu,hr⟩:=hc j z hx;refine⟨u,hu,?_⟩;obtain⟨b,cs⟩:=z
   cases b with
   |true=>obtain⟨a',e,hcs⟩:=hr;exact⟨a',e,Wj hl hcs⟩
   |false=>obtain⟨x1,e,hx1,ho⟩:=hr;subst e;exact⟨_,rfl,acz hl hx1,ho⟩
theorem Uf(hl:oW.length=cO.length):Keep (cO::Ω) (oW::bΩ) ((cO++own.map (Obj.mg cO.length))::Ω) ((oW++bo)::bΩ):=by
 rintro⟨l,j⟩ o h
 cases l with
 |zero=>
  rw[bD] at h;have hj:=(List.getElem?_eq_some_iff.1 h).1;refine⟨o,by rw[bD,List.getElem?_append_left hj];exact h,?_⟩;rw[bD,bD,List.getElem?_append_left (by omega)];exact kT.refl _ _
 |succ l=>
  rw[bY] at h;exact⟨o,by rw[bY];exact h,by rw[bY,bY];exact kT.refl _ _⟩
theorem alv(hS:eF w σ (own::cO::Ω) (bo::oW::bΩ)):eF w σ ((cO++own.map (Obj.mg cO.length))::Ω) ((oW++bo)::bΩ):=by
 have hlo:bo.length=own.length:=by
  obtain⟨gr,h1,h2⟩:=hS.shape.2 0 own rfl;simp at h1;rw[h1];exact h2
 have hl:oW.length=cO.length:=by
  obtain⟨gr,h1,h2⟩:=hS.shape.2 1 cO rfl;simp at h1;rw[h1];exact h2
 have hn:eD w σ w σ:=eD.refl _ _;refine⟨fun k o ho=> ?_,fun k k' o o' h h' b e1 e2 e3 e4 e5 e6=> ?_,⟨by have:=hS.shape.1;simpa using this,fun l fr hfr=> ?_⟩,hS.live,hS.vQ⟩
 ·obtain⟨k0,o0,hk,ho0,rfl,hh⟩:=GR (bo:=bo) (bΩ:=bΩ) hl hlo ho;obtain⟨h,h1,h2⟩:=hS.obj k0 o0 ho0;refine⟨h,by rw[hh];exact h1,?_⟩;obtain⟨l0,j0⟩:=k0
  cases l0 with
  |zero=>
   subst hk;have h2:gJ w σ (own::cO::Ω) (bo::oW::bΩ) o0 h:=h2;show gJ w σ ((cO++own.map (Obj.mg cO.length))::Ω) ((oW++bo)::bΩ) (o0.mg cO.length) h
   cases o0 with
   |box cs=>
    obtain⟨b,c,t,e,q1,q2,q3⟩:=h2;exact⟨b,c,t,e,q1,q2,Wj hl q3⟩
   |dead=>exact trivial
   |tok aY es=>exact h2
   |eO aY es=>exact h2
   |mp m=>exact h2
   |jg n aY es=>exact h2
   |seed n=>exact trivial
   |xf rs=>exact h2
  |succ l0=>
   have hk':k=(l0,j0):=hk.symm;subst hk';have h2:gJ w σ ((cO::Ω).drop l0) ((oW::bΩ).drop l0) o0 h:=h2;exact h2.mono hn ((Uf hl).drop l0) fun _ _=>⟨rfl,rfl⟩
 ·obtain⟨k0,o0,hk,ho0,ho,hh⟩:=GR (bo:=bo) (bΩ:=bΩ) hl hlo e1;obtain⟨k1,o1,hk1,ho1,ho',Ki⟩:=GR (bo:=bo) (bΩ:=bΩ) hl hlo e4;rw[hh] at e2;rw[Ki] at e5
  have b0:owns o0 h b:=by
   rw[ho] at e3;split at e3
   ·rw[Ma] at e3;exact e3
   ·exact e3
  have b1:owns o1 h' b:=by
   rw[ho'] at e6;split at e6
   ·rw[Ma] at e6;exact e6
   ·exact e6
  have:=hS.apart k0 k1 o0 o1 h h' b ho0 e2 b0 ho1 e5 b1;rw[<-hk,<-hk1,this]
 ·cases l with
  |zero=>
   simp at hfr;exact⟨_,rfl,by rw[<-hfr];simp[hl,hlo]⟩
  |succ l=>exact hS.shape.2 (l+2) fr (by simpa using hfr)
theorem ahn(hS:eF w σ (own::cO::Ω) (bo::oW::bΩ)){b:Nat}(h:Own ((cO++own.map (Obj.mg cO.length))::Ω) ((oW++bo)::bΩ) b):Own (own::cO::Ω) (bo::oW::bΩ) b:=by
 have hlo:bo.length=own.length:=by
  obtain⟨gr,h1,h2⟩:=hS.shape.2 0 own rfl;simp at h1;rw[h1];exact h2
 have hl:oW.length=cO.length:=by
  obtain⟨gr,h1,h2⟩:=hS.shape.2 1 cO rfl;simp at h1;rw[h1];exact h2
 obtain⟨k,o,hv,e1,e2,e3⟩:=h;obtain⟨k0,o0,hk,ho0,ho,hh⟩:=GR (bo:=bo) (bΩ:=bΩ) hl hlo e1;rw[hh] at e2;refine⟨k0,o0,hv,ho0,e2,?_⟩;rw[ho] at e3;split at e3
 ·rw[Ma] at e3;exact e3
 ·exact e3
end
def Wl(P:Program)(rs:List ResultVar)(post:V->Store->Prop)(e:Exit)(s:St):Prop:=
 match e with
 | .normal| .ret=>(nG P rs s).1/\match s.st with
   |own::cO::Ω=>post ((nG P rs s).2.mg cO.length) ((cO++own.map (Obj.mg cO.length))::Ω)
   |_=>False
 |_=>False
section
variable {P:Program} {N:Nat} {s:St}
theorem Zr{f:FuncId}{fn:Func}{c:Code}{args:List V}{cO:List Obj}{Ω:Store}{post:V->Store->Prop}(hf:P.funcs[f]? =some fn)(hb:fn.body=some c)(hn:(fn.name== "runtime.NumGoroutine")=false)
 (hl:args.length<=fn.ntmps)(h:AW P fn.ntmps c (Wl P fn.results.toList post) ⟨kE (args.map (V.up 1)) 0,[]::cO::Ω⟩):cB P f args (cO::Ω) post:=by
 refine⟨⟨fn,hf,hn,by simp[hb]⟩,fun w σ β vs hS hargs=> ?_⟩;refine calls_of_wp hf hb ?_;have hlen:vs.length=args.length:=hargs.1.symm
 have PS:jH fn.ntmps ⟨kE (args.map (V.up 1)) 0,[]::cO::Ω⟩ {tmps:=vs.toArray++Array.replicate (fn.ntmps-vs.toArray.size) undef,defers:=[]} w σ ([]::β):=by
  refine⟨by simp;omega,rfl,hS.up1,fun t=> ?_⟩;show dP w σ ([]::cO::Ω) ([]::β) (look (kE (args.map (V.up 1)) 0) t) _;rw[zy,if_pos (Nat.zero_le _),Nat.sub_zero,List.getElem?_map]
  cases ha:args[t]? with
  |none=>exact trivial
  |some x=>
   obtain⟨v,hv,hr⟩:=hargs.2 t x ha;have ht:=(List.getElem?_eq_some_iff.1 hv).1
   have:(vs.toArray++Array.replicate (fn.ntmps-vs.toArray.size) undef).getD t undef=v:=by
    rw[Array.getD_eq_getD_getElem?,Array.getElem?_append_left (by simpa using ht)];simp[hv]
   rw[this];exact GH (S:=[]::cO::Ω) (β:=[]::β) 1 hr
 refine wp_mono (h _ w σ ([]::β) PS) ?_;rintro e a' w' ⟨s',σ',β',hR,hst,hkp,hq⟩
 have main:((nG P fn.results.toList s').1/\match s'.st with
  |own::cO::Ω=>post ((nG P fn.results.toList s').2.mg cO.length) ((cO++own.map (Obj.mg cO.length))::Ω)
  |_=>False)->
   a'.defers=[]/\∃v,(results fn a'.tmps).run P w'=.ok v w'/\∃v_1 r S' σ' β',Ending.returned v=Ending.returned v_1/\eF w' σ' S' β'/\Keep (cO::Ω) β S' β'/\Step (cO::Ω) β σ w S' β' σ' w'/\dP w' σ' S' β' r v_1/\post r S':=by
  rintro⟨q1,q2⟩;obtain⟨v,hv,hrep⟩:=Fp (fn:=fn) hR q1;obtain⟨tm,st⟩:=s';simp only at q2;split at q2
  ·rename_i own Wm Ω1;obtain⟨bo,bΩ',rfl,hlo⟩:=frames hR
   cases bΩ' with
   |nil=>have:=hR.S.shape.1;simp at this
   |cons bo1 bΩ1=>
    have hl1:bo1.length=Wm.length:=by
     obtain⟨gr,h1,h2⟩:=hR.S.shape.2 1 Wm rfl;simp at h1;rw[h1];exact h2
    have xu:Keep (cO::Ω) β (Wm::Ω1) (bo1::bΩ1):=hkp;have hst':Step ([]::cO::Ω) ([]::β) σ w (own::Wm::Ω1) (bo::bo1::bΩ1) σ' w':=hst;exact⟨hR.defers,v,hv,v,_,_,σ',_,rfl,alv hR.S,xu.trans (Uf hl1),⟨hst'.size,hst'.os,hst'.output,fun b hb ho=>hst'.far b hb (fun x=>ho (zO x)),hst'.near,fun b hb=>(hst'.own b (ahn hR.S hb)).imp zO id⟩,alu hl1 hrep,q2⟩
  ·exact q2.elim
 cases e with
 |normal=>exact main hq
 |ret=>exact main hq
 |_=>exact hq.elim
def Qx(P:Program)(rs:List ResultVar)(post:V->Store->Prop)(s:St)(r:R):Prop:=r.1/\match s.st with
 |own::cO::Ω=>post (r.2.mg cO.length) ((cO++own.map (Obj.mg cO.length))::Ω)
 |_=>False
@[congr] theorem ajG {rs:List ResultVar} {post:V->Store->Prop} {s s':St} {r r':R} (h1:s=s') (h2:r=r'):Qx P rs post s r=Qx P rs post s' r':=by rw[h1,h2]
theorem acA{rs:List ResultVar}{post:V->Store->Prop}{tm:List (Nat×V)}{S:Store}:Wl P rs post .ret ⟨tm,S⟩=Qx P rs post ⟨tm,S⟩ (nG P rs ⟨tm,S⟩):=rfl
theorem SN{rs:List ResultVar}{post:V->Store->Prop}{tm:List (Nat×V)}{S:Store}:Wl P rs post .normal ⟨tm,S⟩=Qx P rs post ⟨tm,S⟩ (nG P rs ⟨tm,S⟩):=rfl
theorem afF{rs:List ResultVar}{post:V->Store->Prop}{tm:List (Nat×V)}{own cO:List Obj}{Ω:Store}{p:Prop}{v:V}:
 Qx P rs post ⟨tm,own::cO::Ω⟩ (p,v)=(p/\post (v.mg cO.length) ((cO++own.map (Obj.mg cO.length))::Ω)):=rfl
theorem FH{f:FuncId}{fn:Func}{c:Code}{args:List V}{cO:List Obj}{Ω:Store}{post:V->Store->Prop}{rs:List ResultVar}(fq:P.follows .mixedOrders=true)(hf:P.funcs[f]? =some fn)(hN:fn.ntmps=N)
 (hb:fn.body=some c) (hn:(fn.name== "runtime.NumGoroutine")=false) (hr:fn.results.toList=rs) (hl:Nat.ble args.length N=true) (hok:codeOk N c=true)
 (h:CW P N c (Wl P rs post) ⟨kE (args.map (V.up 1)) 0,[]::cO::Ω⟩):cB P f args (cO::Ω) post:=by
 subst hN;subst hr;exact Zr hf hb hn (Nat.le_of_ble_eq_true hl) (jy fq c _ _ hok h)
theorem mgK_0{n j:Nat}:CS n (0,j)=(0,n+j):=rfl
theorem mgK_1{n l j:Nat}:CS n (1+l,j)=(l,j):=by rw[Nat.add_comm];rfl
end
attribute [go_sem ↓] acA SN
attribute [go_sem] afF V.mg C.mg Obj.mg mgK_0 mgK_1
section
variable {P:Program} {N:Nat} {S:Store} {s:St} {tm:List (Nat×V)}
def GU(E:Md)(R:Array Oper)(K:St->Prop)(s:St):Prop:=GJ E R s.tm=true/\K s
@[congr] theorem aiI {E:Md} {R:Array Oper} {K:St->Prop} {s s':St} (h2:s=s'):GU E R K s=GU E R K s':=by rw[h2]
def ze(P:Program)(N:Nat):Code->(Exit->St->Prop)->St->Prop
 | .seq x y,Q,s=>ze P N x (jJ (ze P N y Q) Q) s
 | .region _ R true,Q,s=>qV P (rO R N) R R.toList s (GU (rO R N) R (Q .normal))
 | .region id R false,Q,s=>CW P N (.region id R false) Q s
 | .cond c x y,Q,s=>CW P N (.cond c x y) Q s
 | .block id c,Q,s=>CW P N (.block id c) Q s
 | .exit id,Q,s=>CW P N (.exit id) Q s
 | .ret,Q,s=>CW P N .ret Q s
 | .skip,Q,s=>CW P N .skip Q s
 | .loop c,Q,s=>CW P N (.loop c) Q s
 |_,_,_=>False
theorem afG{x y:Code}{Q:Exit->St->Prop}:ze P N (.seq x y) Q s=ze P N x (jJ (ze P N y Q) Q) s:=by rw[ze]
theorem acB{id:Nat}{l:List Oper}{Q:Exit->St->Prop}:ze P N (.region id ⟨l⟩ true) Q s=qV P (rO ⟨l⟩ N) ⟨l⟩ l s (GU (rO ⟨l⟩ N) ⟨l⟩ (Q .normal)):=by rw[ze]
theorem Wn{id:Nat}{l:List Oper}{Q:Exit->St->Prop}:ze P N (.region id ⟨l⟩ false) Q s=CW P N (.region id ⟨l⟩ false) Q s:=by rw[ze]
theorem acC{c:Operand}{x y:Code}{Q:Exit->St->Prop}:ze P N (.cond c x y) Q s=CW P N (.cond c x y) Q s:=by rw[ze]
theorem afH{Q:Exit->St->Prop}:ze P N .ret Q s=CW P N .ret Q s:=by rw[ze]
theorem acD{Q:Exit->St->Prop}:ze P N .skip Q s=CW P N .skip Q s:=by rw[ze]
end
attribute [go_sem ↓] afG acB Wn acC afH acD
section
variable {P:Program} {N:Nat} {S:Store} {s:St} {tm:List (Nat×V)}
def mI(P:Program)(N:Nat):Code->(Exit->St->Prop)->St->Prop
 | .seq x y,Q,s=>mI P N x (jJ (mI P N y Q) Q) s
 | .region _ R true,Q,s=>qV P (rO R N) R R.toList s (GU (rO R N) R (Q .normal))
 | .region id R false,Q,s=>CW P N (.region id R false) Q s
 | .cond c x y,Q,s=>xZ (ev s.tm c) (mI P N x Q) (mI P N y Q) s
 | .block id c,Q,s=>mI P N c (wm id Q) s
 | .exit id,Q,s=>CW P N (.exit id) Q s
 | .ret,Q,s=>CW P N .ret Q s
 | .skip,Q,s=>CW P N .skip Q s
 | .loop c,Q,s=>CW P N (.loop c) Q s
 |_,_,_=>False
theorem afI{x y:Code}{Q:Exit->St->Prop}:mI P N (.seq x y) Q s=mI P N x (jJ (mI P N y Q) Q) s:=by rw[mI]
theorem acE{id:Nat}{l:List Oper}{Q:Exit->St->Prop}:mI P N (.region id ⟨l⟩ true) Q s=qV P (rO ⟨l⟩ N) ⟨l⟩ l s (GU (rO ⟨l⟩ N) ⟨l⟩ (Q .normal)):=by rw[mI]
theorem Wo{id:Nat}{l:List Oper}{Q:Exit->St->Prop}:mI P N (.region id ⟨l⟩ false) Q s=CW P N (.region id ⟨l⟩ false) Q s:=by rw[mI]
theorem acF{c:Operand}{x y:Code}{Q:Exit->St->Prop}:mI P N (.cond c x y) Q s=xZ (ev s.tm c) (mI P N x Q) (mI P N y Q) s:=by rw[mI]
theorem Zt{id:Nat}{c:Code}{Q:Exit->St->Prop}:mI P N (.block id c) Q s=mI P N c (wm id Q) s:=by rw[mI]
theorem acG{id:Nat}{Q:Exit->St->Prop}:mI P N (.exit id) Q s=CW P N (.exit id) Q s:=by rw[mI]
theorem afJ{Q:Exit->St->Prop}:mI P N .ret Q s=CW P N .ret Q s:=by rw[mI]
theorem acH{Q:Exit->St->Prop}:mI P N .skip Q s=CW P N .skip Q s:=by rw[mI]
theorem acI{c:Code}{Q:Exit->St->Prop}:mI P N (.loop c) Q s=CW P N (.loop c) Q s:=by rw[mI]
end
attribute [go_sem ↓] afI acE Wo acF Zt acG afJ acH acI
end Go.Ab