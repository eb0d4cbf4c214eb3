/-
  SEVERAL TEXTS IN ONE (merged by program): contracts and models, each with its own heading.
-/
import Derived.Test.YtfhpfkaeldgcmaaGreatPartHfbC
set_option linter.unusedSimpArgs false
set_option linter.unusedVariables false
namespace Go.Ab
def Dr(n:Nat):Key->Key
 |(0,j)=>(0,n+j)
 |(l+1,j)=>(l,j)
def C.mg(n:Nat):C->C
 | .d x=>.d x
 | .any=>.any
 | .bS k es=>.bS (Dr n k) es
 | .bI es=>.bI es
 | .ptr k off=>.ptr (Dr n k) off
 | .lu cs=>.lu cs
 | .kR k i off=>.kR (Dr n k) i off
 | .iJ k=>.iJ (Dr n k)
 | .fn f caps=>.fn f (caps.map fun x=>(Dr n x.1,x.2))
 | .mp k=>.mp (Dr n k)
 | .nG m es=>.nG m es
 | .xp k r p=>.xp (Dr n k) r p
 | .xq k r p z i off=>.xq (Dr n k) r p z i off
def V.mg(n:Nat):V->V
 | .c x=>.c (x.mg n)
 | .agg cs=>.agg (cs.map (C.mg n))
 | .eu xs=>.eu (xs.map fun y=>(y.1,y.2.map (C.mg n)))
 | .any=>.any
def Obj.mg(n:Nat):Obj->Obj
 | .box cs=>.box (cs.map (C.mg n))
 |o=>o
section
variable {P:Program} {w:World} {σ:Nat->Nat} {own cK:List Obj} {Ω:Store} {bo pG:List Value} {bΩ:Hs}
theorem MW{n:Nat}{o:Obj}{h:Value}{b:Nat}:owns (o.mg n) h b<->owns o h b:=by
 cases o with
 |box cs=>
  cases h with
  |pointer a=>cases a<;>exact Iff.rfl
  |_=>exact Iff.rfl
 |_=>exact Iff.rfl
theorem BQ{k:Key}{o:Obj}(h:bA (own::cK::Ω) k=some o):
 bA ((cK++own.map (Obj.mg cK.length))::Ω) (Dr cK.length k)=some (if k.1=0 then o.mg cK.length else o):=by
 obtain⟨l,j⟩:=k
 cases l with
 |zero=>
  rw[bL] at h;show bA _ (0,cK.length+j)=_;rw[bL,List.getElem?_append_right (by omega),show cK.length+j-cK.length=j by omega,List.getElem?_map,h];rfl
 |succ l=>
  rw[bX] at h;show bA _ (l,j)=some o
  cases l with
  |zero=>
   rw[bL] at h ⊢;rw[List.getElem?_append_left (List.getElem?_eq_some_iff.1 h).1];exact h
  |succ l=>rw[bX] at h ⊢;exact h
theorem BR(hl:pG.length=cK.length){k:Key}{h:Value}(e:bA (bo::pG::bΩ) k=some h):bA ((pG++bo)::bΩ) (Dr cK.length k)=some h:=by
 obtain⟨l,j⟩:=k
 cases l with
 |zero=>
  rw[bL] at e;show bA _ (0,cK.length+j)=_;rw[bL,List.getElem?_append_right (by omega),show cK.length+j-pG.length=j by omega,e]
 |succ l=>
  rw[bX] at e;show bA _ (l,j)=some h
  cases l with
  |zero=>
   rw[bL] at e ⊢;rw[List.getElem?_append_left (List.getElem?_eq_some_iff.1 e).1];exact e
  |succ l=>rw[bX] at e ⊢;exact e
theorem HZ(hl:pG.length=cK.length)(hlo:bo.length=own.length){k:Key}{o:Obj}(h:bA ((cK++own.map (Obj.mg cK.length))::Ω) k=some o):
 ∃k0 o0,Dr cK.length k0=k/\bA (own::cK::Ω) k0=some o0/\o=(if k0.1=0 then o0.mg cK.length else o0)/\bA ((pG++bo)::bΩ) k=bA (bo::pG::bΩ) k0:=by
 obtain⟨l,j⟩:=k
 cases l with
 |zero=>
  rw[bL] at h;by_cases hj:j<cK.length
  ·rw[List.getElem?_append_left hj] at h;refine⟨(1,j),o,rfl,by rw[bX,bL];exact h,rfl,?_⟩;rw[bL,bX,bL,List.getElem?_append_left (by omega)]
  ·rw[List.getElem?_append_right (by omega),List.getElem?_map] at h
   cases hx:own[j-cK.length]? with
   |none=>rw[hx] at h;cases h
   |some x=>
    rw[hx] at h;cases h;refine⟨(0,j-cK.length),x,?_,by rw[bL];exact hx,rfl,?_⟩
    ·show(0,cK.length+(j-cK.length))=(0,j);rw[show cK.length+(j-cK.length)=j by omega]
    ·rw[bL,bL,List.getElem?_append_right (by omega),hl]
 |succ l=>
  rw[bX] at h;exact⟨(l+2,j),o,rfl,by rw[bX,bX];exact h,rfl,by rw[bX,bX,bX]⟩
theorem vX{n:Nat}{k:Key}{o:Obj}:(∀bB es,rD (if k.1=0 then o.mg n else o) bB es->rD o bB es)/\(∀bB es,(if k.1=0 then o.mg n else o)=.eP bB es->o=.eP bB es)/\
 (∀m,(if k.1=0 then o.mg n else o)=.mp m->o=.mp m)/\(∀cs,(if k.1=0 then o.mg n else o)=.box cs->∃cs',o=.box cs')/\(∀rs,(if k.1=0 then o.mg n else o)=.xf rs->o=.xf rs):=by
 by_cases e:k.1=0
 ·simp only[if_pos e];cases o<;>simp[Obj.mg,rD]
 ·simp only[if_neg e];exact⟨fun _ _ h=>h,fun _ _ h=>h,fun _ h=>h,fun cs h=>⟨cs,h⟩,fun _ h=>h⟩
theorem adk(hl:pG.length=cK.length){c:C}{v:Value}(h:gJ w σ (own::cK::Ω) (bo::pG::bΩ) c v):
 gJ w σ ((cK++own.map (Obj.mg cK.length))::Ω) ((pG++bo)::bΩ) (c.mg cK.length) v:=by
 cases c with
 |d x=>exact h
 |any=>exact trivial
 |bI es=>exact h
 |lu cs=>exact h
 |nG m es=>exact h
 |xp k r p=>
  obtain⟨o,ho,h2⟩:=h;refine⟨_,BQ ho,fun rs e=> ?_⟩;obtain⟨hh,q1,q2⟩:=h2 rs (vX.2.2.2.2 _ e);exact⟨hh,BR hl q1,q2⟩
 |xq k r p z i off=>
  obtain⟨o,ho,h2⟩:=h;refine⟨_,BQ ho,fun rs e=> ?_⟩;obtain⟨hh,b,a,n,cap,q1,q2⟩:=h2 rs (vX.2.2.2.2 _ e);exact⟨hh,b,a,n,cap,BR hl q1,q2⟩
 |bS k es=>
  obtain⟨h1,o,ho,h2⟩:=h;refine⟨h1,_,BQ ho,fun bB es' e=> ?_⟩;obtain⟨q1,q2⟩:=h2 bB es' (vX.1 _ _ e);exact⟨q1,fun e'=>BR hl (q2 e')⟩
 |ptr k off=>
  obtain⟨o,ho,h2⟩:=h;refine⟨_,BQ ho,fun cs e=> ?_⟩;obtain⟨cs',e'⟩:=vX.2.2.2.1 _ e;obtain⟨b,q1,q2⟩:=h2 cs' e';exact⟨b,BR hl q1,q2⟩
 |kR k i off=>
  obtain⟨o,ho,h2⟩:=h;refine⟨_,BQ ho,fun bB es e=> ?_⟩;obtain⟨b,n,cap,q1,q2⟩:=h2 bB es (vX.2.1 _ _ e);exact⟨b,n,cap,BR hl q1,q2⟩
 |iJ k=>
  obtain⟨o,ho,h2⟩:=h;exact⟨_,BQ ho,fun bB es e=>BR hl (h2 bB es (vX.2.1 _ _ e))⟩
 |mp k=>
  obtain⟨o,ho,h2⟩:=h;exact⟨_,BQ ho,fun m e=>BR hl (h2 m (vX.2.2.1 _ e))⟩
 |fn f caps=>
  obtain⟨vs,e,hsz,hc⟩:=h;refine⟨vs,e,by rw[hsz,List.length_map],fun j k off hj=> ?_⟩;rw[List.getElem?_map] at hj
  cases hx:caps[j]? with
  |none=>rw[hx] at hj;cases hj
  |some y=>
   rw[hx] at hj;injection hj with hj;injection hj with e1 e2;obtain⟨u,q1,q2,o,q3,q4⟩:=hc j y.1 y.2 hx;refine⟨u,q1,q2,_,by rw[<-e1];exact BQ q3,fun cs e=> ?_⟩;obtain⟨cs',e'⟩:=vX.2.2.2.1 _ e;obtain⟨b,q5,q6⟩:=q4 cs' e';exact⟨b,by rw[<-e1];exact BR hl q5,by rw[<-e2];exact q6⟩
theorem Xl(hl:pG.length=cK.length){cs:List C}{vs:List Value}(h:fD w σ (own::cK::Ω) (bo::pG::bΩ) cs vs):
 fD w σ ((cK++own.map (Obj.mg cK.length))::Ω) ((pG++bo)::bΩ) (cs.map (C.mg cK.length)) vs:=by
 refine⟨by rw[List.length_map];exact h.1,fun j x hj=> ?_⟩;rw[List.getElem?_map] at hj
 cases hx:cs[j]? with
 |none=>rw[hx] at hj;cases hj
 |some y=>
  rw[hx] at hj;cases hj;obtain⟨v,h1,h2,h3⟩:=h.2 j y hx;exact⟨v,h1,adk hl h2,h3⟩
theorem ams(hl:pG.length=cK.length){x:V}{v:Value}(h:dP w σ (own::cK::Ω) (bo::pG::bΩ) x v):
 dP w σ ((cK++own.map (Obj.mg cK.length))::Ω) ((pG++bo)::bΩ) (x.mg cK.length) v:=by
 cases x with
 |c x=>exact⟨adk hl h.1,h.2⟩
 |agg cs=>obtain⟨a,ha,hc⟩:=h;exact⟨a,ha,Xl hl hc⟩
 |any=>exact trivial
 |eu xs=>
  obtain⟨a,ha,hlen,hc⟩:=h;refine⟨a,ha,by rw[List.length_map];exact hlen,fun j y hj=> ?_⟩;rw[List.getElem?_map] at hj
  cases hx:xs[j]? with
  |none=>rw[hx] at hj;cases hj
  |some z=>
   rw[hx] at hj;cases hj;obtain⟨u,hu,hr⟩:=hc j z hx;refine⟨u,hu,?_⟩;obtain⟨b,cs⟩:=z
   cases b with
   |true=>obtain⟨a',e,hcs⟩:=hr;exact⟨a',e,Xl hl hcs⟩
   |false=>obtain⟨x1,e,hx1,ho⟩:=hr;subst e;exact⟨_,rfl,adk hl hx1,ho⟩
theorem U7(hl:pG.length=cK.length):Keep (cK::Ω) (pG::bΩ) ((cK++own.map (Obj.mg cK.length))::Ω) ((pG++bo)::bΩ):=by
 rintro⟨l,j⟩ o h
 cases l with
 |zero=>
  rw[bL] at h;have hj:=(List.getElem?_eq_some_iff.1 h).1;refine⟨o,by rw[bL,List.getElem?_append_left hj];exact h,?_⟩;rw[bL,bL,List.getElem?_append_left (by omega)];exact lg.refl _ _
 |succ l=>
  rw[bX] at h;exact⟨o,by rw[bX];exact h,by rw[bX,bX];exact lg.refl _ _⟩
theorem amt(hS:eH w σ (own::cK::Ω) (bo::pG::bΩ)):eH w σ ((cK++own.map (Obj.mg cK.length))::Ω) ((pG++bo)::bΩ):=by
 have hlo:bo.length=own.length:=by
  obtain⟨gr,h1,h2⟩:=hS.shape.2 0 own rfl;simp at h1;rw[h1];exact h2
 have hl:pG.length=cK.length:=by
  obtain⟨gr,h1,h2⟩:=hS.shape.2 1 cK rfl;simp at h1;rw[h1];exact h2
 have hn:eG w σ w σ:=eG.refl _ _;refine⟨fun k o ho=> ?_,fun k k' o o' h h' b e1 e2 e3 e4 e5 e6=> ?_,⟨by have:=hS.shape.1;simpa using this,fun l fr hfr=> ?_⟩,hS.live,hS.wE⟩
 ·obtain⟨k0,o0,hk,ho0,rfl,hh⟩:=HZ (bo:=bo) (bΩ:=bΩ) hl hlo ho;obtain⟨h,h1,h2⟩:=hS.obj k0 o0 ho0;refine⟨h,by rw[hh];exact h1,?_⟩;obtain⟨l0,j0⟩:=k0
  cases l0 with
  |zero=>
   subst hk;have h2:gM w σ (own::cK::Ω) (bo::pG::bΩ) o0 h:=h2;show gM w σ ((cK++own.map (Obj.mg cK.length))::Ω) ((pG++bo)::bΩ) (o0.mg cK.length) h
   cases o0 with
   |box cs=>
    obtain⟨b,c,t,e,q1,q2,q3⟩:=h2;exact⟨b,c,t,e,q1,q2,Xl hl q3⟩
   |dead=>exact trivial
   |tok bB es=>exact h2
   |eP bB es=>exact h2
   |mp m=>exact h2
   |jm n bB es=>exact h2
   |seed n=>exact trivial
   |xf rs=>exact h2
  |succ l0=>
   have hk':k=(l0,j0):=hk.symm;subst hk';have h2:gM w σ ((cK::Ω).drop l0) ((pG::bΩ).drop l0) o0 h:=h2;exact h2.mono hn ((U7 hl).drop l0) fun _ _=>⟨rfl,rfl⟩
 ·obtain⟨k0,o0,hk,ho0,ho,hh⟩:=HZ (bo:=bo) (bΩ:=bΩ) hl hlo e1;obtain⟨k1,o1,hk1,ho1,ho',KO⟩:=HZ (bo:=bo) (bΩ:=bΩ) hl hlo e4;rw[hh] at e2;rw[KO] at e5
  have b0:owns o0 h b:=by
   rw[ho] at e3;split at e3
   ·rw[MW] at e3;exact e3
   ·exact e3
  have b1:owns o1 h' b:=by
   rw[ho'] at e6;split at e6
   ·rw[MW] at e6;exact e6
   ·exact e6
  have:=hS.apart k0 k1 o0 o1 h h' b ho0 e2 b0 ho1 e5 b1;rw[<-hk,<-hk1,this]
 ·cases l with
  |zero=>
   simp at hfr;exact⟨_,rfl,by rw[<-hfr];simp[hl,hlo]⟩
  |succ l=>exact hS.shape.2 (l+2) fr (by simpa using hfr)
theorem aic(hS:eH w σ (own::cK::Ω) (bo::pG::bΩ)){b:Nat}(h:Own ((cK++own.map (Obj.mg cK.length))::Ω) ((pG++bo)::bΩ) b):Own (own::cK::Ω) (bo::pG::bΩ) b:=by
 have hlo:bo.length=own.length:=by
  obtain⟨gr,h1,h2⟩:=hS.shape.2 0 own rfl;simp at h1;rw[h1];exact h2
 have hl:pG.length=cK.length:=by
  obtain⟨gr,h1,h2⟩:=hS.shape.2 1 cK rfl;simp at h1;rw[h1];exact h2
 obtain⟨k,o,hv,e1,e2,e3⟩:=h;obtain⟨k0,o0,hk,ho0,ho,hh⟩:=HZ (bo:=bo) (bΩ:=bΩ) hl hlo e1;rw[hh] at e2;refine⟨k0,o0,hv,ho0,e2,?_⟩;rw[ho] at e3;split at e3
 ·rw[MW] at e3;exact e3
 ·exact e3
end
def Xm(P:Program)(rs:List ResultVar)(post:V->Store->Prop)(e:Exit)(s:St):Prop:=
 match e with
 | .normal| .ret=>(nM P rs s).1/\match s.st with
   |own::cK::Ω=>post ((nM P rs s).2.mg cK.length) ((cK++own.map (Obj.mg cK.length))::Ω)
   |_=>False
 |_=>False
section
variable {P:Program} {N:Nat} {s:St}
theorem aah{f:FuncId}{fn:Func}{c:Code}{args:List V}{cK:List Obj}{Ω:Store}{post:V->Store->Prop}(hf:P.funcs[f]? =some fn)(hb:fn.body=some c)(hn:(fn.name== "runtime.NumGoroutine")=false)
 (hl:args.length<=fn.ntmps)(h:AW P fn.ntmps c (Xm P fn.results.toList post) ⟨kM (args.map (V.up 1)) 0,[]::cK::Ω⟩):cB P f args (cK::Ω) post:=by
 refine⟨⟨fn,hf,hn,by simp[hb]⟩,fun w σ β vs hS hargs=> ?_⟩;refine calls_of_wp hf hb ?_;have hlen:vs.length=args.length:=hargs.1.symm
 have Qz:jN fn.ntmps ⟨kM (args.map (V.up 1)) 0,[]::cK::Ω⟩ {tmps:=vs.toArray++Array.replicate (fn.ntmps-vs.toArray.size) undef,defers:=[]} w σ ([]::β):=by
  refine⟨by simp;omega,rfl,hS.up1,fun t=> ?_⟩;show dP w σ ([]::cK::Ω) ([]::β) (look (kM (args.map (V.up 1)) 0) t) _;rw[zX,if_pos (Nat.zero_le _),Nat.sub_zero,List.getElem?_map]
  cases ha:args[t]? with
  |none=>exact trivial
  |some x=>
   obtain⟨v,hv,hr⟩:=hargs.2 t x ha;have ht:=(List.getElem?_eq_some_iff.1 hv).1
   have:(vs.toArray++Array.replicate (fn.ntmps-vs.toArray.size) undef).getD t undef=v:=by
    rw[Array.getD_eq_getD_getElem?,Array.getElem?_append_left (by simpa using ht)];simp[hv]
   rw[this];exact Ht (S:=[]::cK::Ω) (β:=[]::β) 1 hr
 refine wp_mono (h _ w σ ([]::β) Qz) ?_;rintro e a' w' ⟨s',σ',β',hR,hst,hkp,hq⟩
 have main:((nM P fn.results.toList s').1/\match s'.st with
  |own::cK::Ω=>post ((nM P fn.results.toList s').2.mg cK.length) ((cK++own.map (Obj.mg cK.length))::Ω)
  |_=>False)->
   a'.defers=[]/\∃v,(results fn a'.tmps).run P w'=.ok v w'/\∃v_1 r S' σ' β',Ending.returned v=Ending.returned v_1/\eH w' σ' S' β'/\Keep (cK::Ω) β S' β'/\Step (cK::Ω) β σ w S' β' σ' w'/\dP w' σ' S' β' r v_1/\post r S':=by
  rintro⟨q1,q2⟩;obtain⟨v,hv,hrep⟩:=FR (fn:=fn) hR q1;obtain⟨tm,st⟩:=s';simp only at q2;split at q2
  ·rename_i own Xn Ω1;obtain⟨bo,bΩ',rfl,hlo⟩:=frames hR
   cases bΩ' with
   |nil=>have:=hR.S.shape.1;simp at this
   |cons bo1 bΩ1=>
    have hl1:bo1.length=Xn.length:=by
     obtain⟨gr,h1,h2⟩:=hR.S.shape.2 1 Xn rfl;simp at h1;rw[h1];exact h2
    have xS:Keep (cK::Ω) β (Xn::Ω1) (bo1::bΩ1):=hkp;have hst':Step ([]::cK::Ω) ([]::β) σ w (own::Xn::Ω1) (bo::bo1::bΩ1) σ' w':=hst;exact⟨hR.defers,v,hv,v,_,_,σ',_,rfl,amt hR.S,xS.trans (U7 hl1),⟨hst'.size,hst'.os,hst'.output,fun b hb ho=>hst'.far b hb (fun x=>ho (Ak x)),hst'.near,fun b hb=>(hst'.own b (aic hR.S hb)).imp Ak id⟩,ams hl1 hrep,q2⟩
  ·exact q2.elim
 cases e with
 |normal=>exact main hq
 |ret=>exact main hq
 |_=>exact hq.elim
def Ri(P:Program)(rs:List ResultVar)(post:V->Store->Prop)(s:St)(r:R):Prop:=r.1/\match s.st with
 |own::cK::Ω=>post (r.2.mg cK.length) ((cK++own.map (Obj.mg cK.length))::Ω)
 |_=>False
@[congr] theorem akz {rs:List ResultVar} {post:V->Store->Prop} {s s':St} {r r':R} (h1:s=s') (h2:r=r'):Ri P rs post s r=Ri P rs post s' r':=by rw[h1,h2]
theorem adl{rs:List ResultVar}{post:V->Store->Prop}{tm:List (Nat×V)}{S:Store}:Xm P rs post .ret ⟨tm,S⟩=Ri P rs post ⟨tm,S⟩ (nM P rs ⟨tm,S⟩):=rfl
theorem TU{rs:List ResultVar}{post:V->Store->Prop}{tm:List (Nat×V)}{S:Store}:Xm P rs post .normal ⟨tm,S⟩=Ri P rs post ⟨tm,S⟩ (nM P rs ⟨tm,S⟩):=rfl
theorem agx{rs:List ResultVar}{post:V->Store->Prop}{tm:List (Nat×V)}{own cK:List Obj}{Ω:Store}{p:Prop}{v:V}:
 Ri P rs post ⟨tm,own::cK::Ω⟩ (p,v)=(p/\post (v.mg cK.length) ((cK++own.map (Obj.mg cK.length))::Ω)):=rfl
theorem F7{f:FuncId}{fn:Func}{c:Code}{args:List V}{cK:List Obj}{Ω:Store}{post:V->Store->Prop}{rs:List ResultVar}(fu:P.follows .mixedOrders=true)(hf:P.funcs[f]? =some fn)(hN:fn.ntmps=N)
 (hb:fn.body=some c) (hn:(fn.name== "runtime.NumGoroutine")=false) (hr:fn.results.toList=rs) (hl:Nat.ble args.length N=true) (hok:codeOk N c=true)
 (h:CW P N c (Xm P rs post) ⟨kM (args.map (V.up 1)) 0,[]::cK::Ω⟩):cB P f args (cK::Ω) post:=by
 subst hN;subst hr;exact aah hf hb hn (Nat.le_of_ble_eq_true hl) (jG fu c _ _ hok h)
theorem mgK_0{n j:Nat}:Dr n (0,j)=(0,n+j):=rfl
theorem mgK_1{n l j:Nat}:Dr n (1+l,j)=(l,j):=by rw[Nat.add_comm];rfl
end
attribute [go_sem ↓] adl TU
attribute [go_sem] agx V.mg C.mg Obj.mg mgK_0 mgK_1
section
variable {P:Program} {N:Nat} {S:Store} {s:St} {tm:List (Nat×V)}
def H6(E:Md)(R:Array Oper)(K:St->Prop)(s:St):Prop:=Hw E R s.tm=true/\K s
@[congr] theorem ajA {E:Md} {R:Array Oper} {K:St->Prop} {s s':St} (h2:s=s'):H6 E R K s=H6 E R K s':=by rw[h2]
def zI(P:Program)(N:Nat):Code->(Exit->St->Prop)->St->Prop
 | .seq x y,Q,s=>zI P N x (jP (zI P N y Q) Q) s
 | .region _ R true,Q,s=>rH P (su R N) R R.toList s (H6 (su R N) R (Q .normal))
 | .region id R false,Q,s=>CW P N (.region id R false) Q s
 | .cond c x y,Q,s=>CW P N (.cond c x y) Q s
 | .block id c,Q,s=>CW P N (.block id c) Q s
 | .exit id,Q,s=>CW P N (.exit id) Q s
 | .ret,Q,s=>CW P N .ret Q s
 | .skip,Q,s=>CW P N .skip Q s
 | .loop c,Q,s=>CW P N (.loop c) Q s
 |_,_,_=>False
theorem agy{x y:Code}{Q:Exit->St->Prop}:zI P N (.seq x y) Q s=zI P N x (jP (zI P N y Q) Q) s:=by rw[zI]
theorem adn{id:Nat}{l:List Oper}{Q:Exit->St->Prop}:zI P N (.region id ⟨l⟩ true) Q s=rH P (su ⟨l⟩ N) ⟨l⟩ l s (H6 (su ⟨l⟩ N) ⟨l⟩ (Q .normal)):=by rw[zI]
theorem Xo{id:Nat}{l:List Oper}{Q:Exit->St->Prop}:zI P N (.region id ⟨l⟩ false) Q s=CW P N (.region id ⟨l⟩ false) Q s:=by rw[zI]
theorem ado{c:Operand}{x y:Code}{Q:Exit->St->Prop}:zI P N (.cond c x y) Q s=CW P N (.cond c x y) Q s:=by rw[zI]
theorem agz{Q:Exit->St->Prop}:zI P N .ret Q s=CW P N .ret Q s:=by rw[zI]
theorem adp{Q:Exit->St->Prop}:zI P N .skip Q s=CW P N .skip Q s:=by rw[zI]
end
attribute [go_sem ↓] agy adn Xo ado agz adp
section
variable {P:Program} {N:Nat} {S:Store} {s:St} {tm:List (Nat×V)}
def mR(P:Program)(N:Nat):Code->(Exit->St->Prop)->St->Prop
 | .seq x y,Q,s=>mR P N x (jP (mR P N y Q) Q) s
 | .region _ R true,Q,s=>rH P (su R N) R R.toList s (H6 (su R N) R (Q .normal))
 | .region id R false,Q,s=>CW P N (.region id R false) Q s
 | .cond c x y,Q,s=>yK (ev s.tm c) (mR P N x Q) (mR P N y Q) s
 | .block id c,Q,s=>mR P N c (wP id Q) s
 | .exit id,Q,s=>CW P N (.exit id) Q s
 | .ret,Q,s=>CW P N .ret Q s
 | .skip,Q,s=>CW P N .skip Q s
 | .loop c,Q,s=>CW P N (.loop c) Q s
 |_,_,_=>False
theorem agA{x y:Code}{Q:Exit->St->Prop}:mR P N (.seq x y) Q s=mR P N x (jP (mR P N y Q) Q) s:=by rw[mR]
theorem adq{id:Nat}{l:List Oper}{Q:Exit->St->Prop}:mR P N (.region id ⟨l⟩ true) Q s=rH P (su ⟨l⟩ N) ⟨l⟩ l s (H6 (su ⟨l⟩ N) ⟨l⟩ (Q .normal)):=by rw[mR]
theorem Xp{id:Nat}{l:List Oper}{Q:Exit->St->Prop}:mR P N (.region id ⟨l⟩ false) Q s=CW P N (.region id ⟨l⟩ false) Q s:=by rw[mR]
theorem adr{c:Operand}{x y:Code}{Q:Exit->St->Prop}:mR P N (.cond c x y) Q s=yK (ev s.tm c) (mR P N x Q) (mR P N y Q) s:=by rw[mR]
theorem aai{id:Nat}{c:Code}{Q:Exit->St->Prop}:mR P N (.block id c) Q s=mR P N c (wP id Q) s:=by rw[mR]
theorem ads{id:Nat}{Q:Exit->St->Prop}:mR P N (.exit id) Q s=CW P N (.exit id) Q s:=by rw[mR]
theorem agB{Q:Exit->St->Prop}:mR P N .ret Q s=CW P N .ret Q s:=by rw[mR]
theorem adt{Q:Exit->St->Prop}:mR P N .skip Q s=CW P N .skip Q s:=by rw[mR]
theorem adu{c:Code}{Q:Exit->St->Prop}:mR P N (.loop c) Q s=CW P N (.loop c) Q s:=by rw[mR]
end
attribute [go_sem ↓] agA adq Xp adr aai ads agB adt adu
end Go.Ab