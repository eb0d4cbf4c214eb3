/-
  SEVERAL TEXTS IN ONE (merged by program): contracts and models, each with its own heading.
-/
import Derived.Test.YtfhpfkaeldgcmaaGreatPartHebC
set_option linter.unusedSimpArgs false
set_option linter.unusedVariables false
namespace Go.Ab
def DF(n:Nat):Key->Key
 |(0,j)=>(0,n+j)
 |(l+1,j)=>(l,j)
def C.mg(n:Nat):C->C
 | .d x=>.d x
 | .any=>.any
 | .bV k es=>.bV (DF n k) es
 | .bM es=>.bM es
 | .ptr k off=>.ptr (DF n k) off
 | .kV cs=>.kV cs
 | .kI k i off=>.kI (DF n k) i off
 | .iU k=>.iU (DF n k)
 | .fn f caps=>.fn f (caps.map fun x=>(DF n x.1,x.2))
 | .mp k=>.mp (DF n k)
 | .nA m es=>.nA m es
 | .xp k r p=>.xp (DF n k) r p
 | .xq k r p z i off=>.xq (DF n k) r p z i off
def V.mg(n:Nat):V->V
 | .c x=>.c (x.mg n)
 | .agg cs=>.agg (cs.map (C.mg n))
 | .eD xs=>.eD (xs.map fun y=>(y.1,y.2.map (C.mg n)))
 | .any=>.any
def Obj.mg(n:Nat):Obj->Obj
 | .box cs=>.box (cs.map (C.mg n))
 |o=>o
section
variable {P:Program} {w:World} {σ:Nat->Nat} {own cB:List Obj} {Ω:Store} {bo pU:List Value} {bΩ:Hs}
theorem M8{n:Nat}{o:Obj}{h:Value}{b:Nat}:owns (o.mg n) h b<->owns o h b:=by
 cases o with
 |box cs=>
  cases h with
  |pointer a=>cases a<;>exact Iff.rfl
  |_=>exact Iff.rfl
 |_=>exact Iff.rfl
theorem Ch{k:Key}{o:Obj}(h:bn (own::cB::Ω) k=some o):
 bn ((cB++own.map (Obj.mg cB.length))::Ω) (DF cB.length k)=some (if k.1=0 then o.mg cB.length else o):=by
 obtain⟨l,j⟩:=k
 cases l with
 |zero=>
  rw[bK] at h;show bn _ (0,cB.length+j)=_;rw[bK,List.getElem?_append_right (by omega),show cB.length+j-cB.length=j by omega,List.getElem?_map,h];rfl
 |succ l=>
  rw[bZ] at h;show bn _ (l,j)=some o
  cases l with
  |zero=>
   rw[bK] at h ⊢;rw[List.getElem?_append_left (List.getElem?_eq_some_iff.1 h).1];exact h
  |succ l=>rw[bZ] at h ⊢;exact h
theorem Ci(hl:pU.length=cB.length){k:Key}{h:Value}(e:bn (bo::pU::bΩ) k=some h):bn ((pU++bo)::bΩ) (DF cB.length k)=some h:=by
 obtain⟨l,j⟩:=k
 cases l with
 |zero=>
  rw[bK] at e;show bn _ (0,cB.length+j)=_;rw[bK,List.getElem?_append_right (by omega),show cB.length+j-pU.length=j by omega,e]
 |succ l=>
  rw[bZ] at e;show bn _ (l,j)=some h
  cases l with
  |zero=>
   rw[bK] at e ⊢;rw[List.getElem?_append_left (List.getElem?_eq_some_iff.1 e).1];exact e
  |succ l=>rw[bZ] at e ⊢;exact e
theorem Iu(hl:pU.length=cB.length)(hlo:bo.length=own.length){k:Key}{o:Obj}(h:bn ((cB++own.map (Obj.mg cB.length))::Ω) k=some o):
 ∃k0 o0,DF cB.length k0=k/\bn (own::cB::Ω) k0=some o0/\o=(if k0.1=0 then o0.mg cB.length else o0)/\bn ((pU++bo)::bΩ) k=bn (bo::pU::bΩ) k0:=by
 obtain⟨l,j⟩:=k
 cases l with
 |zero=>
  rw[bK] at h;by_cases hj:j<cB.length
  ·rw[List.getElem?_append_left hj] at h;refine⟨(1,j),o,rfl,by rw[bZ,bK];exact h,rfl,?_⟩;rw[bK,bZ,bK,List.getElem?_append_left (by omega)]
  ·rw[List.getElem?_append_right (by omega),List.getElem?_map] at h
   cases hx:own[j-cB.length]? with
   |none=>rw[hx] at h;cases h
   |some x=>
    rw[hx] at h;cases h;refine⟨(0,j-cB.length),x,?_,by rw[bK];exact hx,rfl,?_⟩
    ·show(0,cB.length+(j-cB.length))=(0,j);rw[show cB.length+(j-cB.length)=j by omega]
    ·rw[bK,bK,List.getElem?_append_right (by omega),hl]
 |succ l=>
  rw[bZ] at h;exact⟨(l+2,j),o,rfl,by rw[bZ,bZ];exact h,rfl,by rw[bZ,bZ,bZ]⟩
theorem vX{n:Nat}{k:Key}{o:Obj}:(∀bB es,rD (if k.1=0 then o.mg n else o) bB es->rD o bB es)/\(∀bB es,(if k.1=0 then o.mg n else o)=.eZ bB es->o=.eZ bB es)/\
 (∀m,(if k.1=0 then o.mg n else o)=.mp m->o=.mp m)/\(∀cs,(if k.1=0 then o.mg n else o)=.box cs->∃cs',o=.box cs')/\(∀rs,(if k.1=0 then o.mg n else o)=.xf rs->o=.xf rs):=by
 by_cases e:k.1=0
 ·simp only[if_pos e];cases o<;>simp[Obj.mg,rD]
 ·simp only[if_neg e];exact⟨fun _ _ h=>h,fun _ _ h=>h,fun _ h=>h,fun cs h=>⟨cs,h⟩,fun _ h=>h⟩
theorem adK(hl:pU.length=cB.length){c:C}{v:Value}(h:iq w σ (own::cB::Ω) (bo::pU::bΩ) c v):
 iq w σ ((cB++own.map (Obj.mg cB.length))::Ω) ((pU++bo)::bΩ) (c.mg cB.length) v:=by
 cases c with
 |d x=>exact h
 |any=>exact trivial
 |bM es=>exact h
 |kV cs=>exact h
 |nA m es=>exact h
 |xp k r p=>
  obtain⟨o,ho,h2⟩:=h;refine⟨_,Ch ho,fun rs e=> ?_⟩;obtain⟨hh,q1,q2⟩:=h2 rs (vX.2.2.2.2 _ e);exact⟨hh,Ci hl q1,q2⟩
 |xq k r p z i off=>
  obtain⟨o,ho,h2⟩:=h;refine⟨_,Ch ho,fun rs e=> ?_⟩;obtain⟨hh,b,a,n,cap,q1,q2⟩:=h2 rs (vX.2.2.2.2 _ e);exact⟨hh,b,a,n,cap,Ci hl q1,q2⟩
 |bV k es=>
  obtain⟨h1,o,ho,h2⟩:=h;refine⟨h1,_,Ch ho,fun bB es' e=> ?_⟩;obtain⟨q1,q2⟩:=h2 bB es' (vX.1 _ _ e);exact⟨q1,fun e'=>Ci hl (q2 e')⟩
 |ptr k off=>
  obtain⟨o,ho,h2⟩:=h;refine⟨_,Ch ho,fun cs e=> ?_⟩;obtain⟨cs',e'⟩:=vX.2.2.2.1 _ e;obtain⟨b,q1,q2⟩:=h2 cs' e';exact⟨b,Ci hl q1,q2⟩
 |kI k i off=>
  obtain⟨o,ho,h2⟩:=h;refine⟨_,Ch ho,fun bB es e=> ?_⟩;obtain⟨b,n,cap,q1,q2⟩:=h2 bB es (vX.2.1 _ _ e);exact⟨b,n,cap,Ci hl q1,q2⟩
 |iU k=>
  obtain⟨o,ho,h2⟩:=h;exact⟨_,Ch ho,fun bB es e=>Ci hl (h2 bB es (vX.2.1 _ _ e))⟩
 |mp k=>
  obtain⟨o,ho,h2⟩:=h;exact⟨_,Ch ho,fun m e=>Ci hl (h2 m (vX.2.2.1 _ e))⟩
 |fn f caps=>
  obtain⟨vs,e,hsz,hc⟩:=h;refine⟨vs,e,by rw[hsz,List.length_map],fun j k off hj=> ?_⟩;rw[List.getElem?_map] at hj
  cases hx:caps[j]? with
  |none=>rw[hx] at hj;cases hj
  |some y=>
   rw[hx] at hj;injection hj with hj;injection hj with e1 e2;obtain⟨u,q1,q2,o,q3,q4⟩:=hc j y.1 y.2 hx;refine⟨u,q1,q2,_,by rw[<-e1];exact Ch q3,fun cs e=> ?_⟩;obtain⟨cs',e'⟩:=vX.2.2.2.1 _ e;obtain⟨b,q5,q6⟩:=q4 cs' e';exact⟨b,by rw[<-e1];exact Ci hl q5,by rw[<-e2];exact q6⟩
theorem XB(hl:pU.length=cB.length){cs:List C}{vs:List Value}(h:fO w σ (own::cB::Ω) (bo::pU::bΩ) cs vs):
 fO w σ ((cB++own.map (Obj.mg cB.length))::Ω) ((pU++bo)::bΩ) (cs.map (C.mg cB.length)) vs:=by
 refine⟨by rw[List.length_map];exact h.1,fun j x hj=> ?_⟩;rw[List.getElem?_map] at hj
 cases hx:cs[j]? with
 |none=>rw[hx] at hj;cases hj
 |some y=>
  rw[hx] at hj;cases hj;obtain⟨v,h1,h2,h3⟩:=h.2 j y hx;exact⟨v,h1,adK hl h2,h3⟩
theorem amG(hl:pU.length=cB.length){x:V}{v:Value}(h:dN w σ (own::cB::Ω) (bo::pU::bΩ) x v):
 dN w σ ((cB++own.map (Obj.mg cB.length))::Ω) ((pU++bo)::bΩ) (x.mg cB.length) v:=by
 cases x with
 |c x=>exact⟨adK hl h.1,h.2⟩
 |agg cs=>obtain⟨a,ha,hc⟩:=h;exact⟨a,ha,XB hl hc⟩
 |any=>exact trivial
 |eD xs=>
  obtain⟨a,ha,hlen,hc⟩:=h;refine⟨a,ha,by rw[List.length_map];exact hlen,fun j y hj=> ?_⟩;rw[List.getElem?_map] at hj
  cases hx:xs[j]? with
  |none=>rw[hx] at hj;cases hj
  |some z=>
   rw[hx] at hj;cases hj;obtain⟨u,hu,hr⟩:=hc j z hx;refine⟨u,hu,?_⟩;obtain⟨b,cs⟩:=z
   cases b with
   |true=>obtain⟨a',e,hcs⟩:=hr;exact⟨a',e,XB hl hcs⟩
   |false=>obtain⟨x1,e,hx1,ho⟩:=hr;subst e;exact⟨_,rfl,adK hl hx1,ho⟩
theorem Vo(hl:pU.length=cB.length):Keep (cB::Ω) (pU::bΩ) ((cB++own.map (Obj.mg cB.length))::Ω) ((pU++bo)::bΩ):=by
 rintro⟨l,j⟩ o h
 cases l with
 |zero=>
  rw[bK] at h;have hj:=(List.getElem?_eq_some_iff.1 h).1;refine⟨o,by rw[bK,List.getElem?_append_left hj];exact h,?_⟩;rw[bK,bK,List.getElem?_append_left (by omega)];exact kS.refl _ _
 |succ l=>
  rw[bZ] at h;exact⟨o,by rw[bZ];exact h,by rw[bZ,bZ];exact kS.refl _ _⟩
theorem amH(hS:eG w σ (own::cB::Ω) (bo::pU::bΩ)):eG w σ ((cB++own.map (Obj.mg cB.length))::Ω) ((pU++bo)::bΩ):=by
 have hlo:bo.length=own.length:=by
  obtain⟨gr,h1,h2⟩:=hS.shape.2 0 own rfl;simp at h1;rw[h1];exact h2
 have hl:pU.length=cB.length:=by
  obtain⟨gr,h1,h2⟩:=hS.shape.2 1 cB rfl;simp at h1;rw[h1];exact h2
 have hn:fq w σ w σ:=fq.refl _ _;refine⟨fun k o ho=> ?_,fun k k' o o' h h' b e1 e2 e3 e4 e5 e6=> ?_,⟨by have:=hS.shape.1;simpa using this,fun l fr hfr=> ?_⟩,hS.live,hS.wJ⟩
 ·obtain⟨k0,o0,hk,ho0,rfl,hh⟩:=Iu (bo:=bo) (bΩ:=bΩ) hl hlo ho;obtain⟨h,h1,h2⟩:=hS.obj k0 o0 ho0;refine⟨h,by rw[hh];exact h1,?_⟩;obtain⟨l0,j0⟩:=k0
  cases l0 with
  |zero=>
   subst hk;have h2:gJ w σ (own::cB::Ω) (bo::pU::bΩ) o0 h:=h2;show gJ w σ ((cB++own.map (Obj.mg cB.length))::Ω) ((pU++bo)::bΩ) (o0.mg cB.length) h
   cases o0 with
   |box cs=>
    obtain⟨b,c,t,e,q1,q2,q3⟩:=h2;exact⟨b,c,t,e,q1,q2,XB hl q3⟩
   |dead=>exact trivial
   |tok bB es=>exact h2
   |eZ bB es=>exact h2
   |mp m=>exact h2
   |jD n bB es=>exact h2
   |seed n=>exact trivial
   |xf rs=>exact h2
  |succ l0=>
   have hk':k=(l0,j0):=hk.symm;subst hk';have h2:gJ w σ ((cB::Ω).drop l0) ((pU::bΩ).drop l0) o0 h:=h2;exact h2.mono hn ((Vo hl).drop l0) fun _ _=>⟨rfl,rfl⟩
 ·obtain⟨k0,o0,hk,ho0,ho,hh⟩:=Iu (bo:=bo) (bΩ:=bΩ) hl hlo e1;obtain⟨k1,o1,hk1,ho1,ho',K6⟩:=Iu (bo:=bo) (bΩ:=bΩ) hl hlo e4;rw[hh] at e2;rw[K6] at e5
  have b0:owns o0 h b:=by
   rw[ho] at e3;split at e3
   ·rw[M8] at e3;exact e3
   ·exact e3
  have b1:owns o1 h' b:=by
   rw[ho'] at e6;split at e6
   ·rw[M8] at e6;exact e6
   ·exact e6
  have:=hS.apart k0 k1 o0 o1 h h' b ho0 e2 b0 ho1 e5 b1;rw[<-hk,<-hk1,this]
 ·cases l with
  |zero=>
   simp at hfr;exact⟨_,rfl,by rw[<-hfr];simp[hl,hlo]⟩
  |succ l=>exact hS.shape.2 (l+2) fr (by simpa using hfr)
theorem aiF(hS:eG w σ (own::cB::Ω) (bo::pU::bΩ)){b:Nat}(h:Own ((cB++own.map (Obj.mg cB.length))::Ω) ((pU++bo)::bΩ) b):Own (own::cB::Ω) (bo::pU::bΩ) b:=by
 have hlo:bo.length=own.length:=by
  obtain⟨gr,h1,h2⟩:=hS.shape.2 0 own rfl;simp at h1;rw[h1];exact h2
 have hl:pU.length=cB.length:=by
  obtain⟨gr,h1,h2⟩:=hS.shape.2 1 cB rfl;simp at h1;rw[h1];exact h2
 obtain⟨k,o,hv,e1,e2,e3⟩:=h;obtain⟨k0,o0,hk,ho0,ho,hh⟩:=Iu (bo:=bo) (bΩ:=bΩ) hl hlo e1;rw[hh] at e2;refine⟨k0,o0,hv,ho0,e2,?_⟩;rw[ho] at e3;split at e3
 ·rw[M8] at e3;exact e3
 ·exact e3
end
def XC(P:Program)(rs:List ResultVar)(post:V->Store->Prop)(e:Exit)(s:St):Prop:=
 match e with
 | .normal| .ret=>(nL P rs s).1/\match s.st with
   |own::cB::Ω=>post ((nL P rs s).2.mg cB.length) ((cB++own.map (Obj.mg cB.length))::Ω)
   |_=>False
 |_=>False
section
variable {P:Program} {N:Nat} {s:St}
theorem aaA{f:FuncId}{fn:Func}{c:Code}{args:List V}{cB:List Obj}{Ω:Store}{post:V->Store->Prop}(hf:P.funcs[f]? =some fn)(hb:fn.body=some c)(hn:(fn.name== "runtime.NumGoroutine")=false)
 (hl:args.length<=fn.ntmps)(h:AW P fn.ntmps c (XC P fn.results.toList post) ⟨lu (args.map (V.up 1)) 0,[]::cB::Ω⟩):bY P f args (cB::Ω) post:=by
 refine⟨⟨fn,hf,hn,by simp[hb]⟩,fun w σ β vs hS hargs=> ?_⟩;refine calls_of_wp hf hb ?_;have hlen:vs.length=args.length:=hargs.1.symm
 have QG:jM fn.ntmps ⟨lu (args.map (V.up 1)) 0,[]::cB::Ω⟩ {tmps:=vs.toArray++Array.replicate (fn.ntmps-vs.toArray.size) undef,defers:=[]} w σ ([]::β):=by
  refine⟨by simp;omega,rfl,hS.up1,fun t=> ?_⟩;show dN w σ ([]::cB::Ω) ([]::β) (look (lu (args.map (V.up 1)) 0) t) _;rw[Ag,if_pos (Nat.zero_le _),Nat.sub_zero,List.getElem?_map]
  cases ha:args[t]? with
  |none=>exact trivial
  |some x=>
   obtain⟨v,hv,hr⟩:=hargs.2 t x ha;have ht:=(List.getElem?_eq_some_iff.1 hv).1
   have:(vs.toArray++Array.replicate (fn.ntmps-vs.toArray.size) undef).getD t undef=v:=by
    rw[Array.getD_eq_getD_getElem?,Array.getElem?_append_left (by simpa using ht)];simp[hv]
   rw[this];exact Ij (S:=[]::cB::Ω) (β:=[]::β) 1 hr
 refine wp_mono (h _ w σ ([]::β) QG) ?_;rintro e a' w' ⟨s',σ',β',hR,hst,hkp,hq⟩
 have main:((nL P fn.results.toList s').1/\match s'.st with
  |own::cB::Ω=>post ((nL P fn.results.toList s').2.mg cB.length) ((cB++own.map (Obj.mg cB.length))::Ω)
  |_=>False)->
   a'.defers=[]/\∃v,(results fn a'.tmps).run P w'=.ok v w'/\∃v_1 r S' σ' β',Ending.returned v=Ending.returned v_1/\eG w' σ' S' β'/\Keep (cB::Ω) β S' β'/\Step (cB::Ω) β σ w S' β' σ' w'/\dN w' σ' S' β' r v_1/\post r S':=by
  rintro⟨q1,q2⟩;obtain⟨v,hv,hrep⟩:=Gb (fn:=fn) hR q1;obtain⟨tm,st⟩:=s';simp only at q2;split at q2
  ·rename_i own XD Ω1;obtain⟨bo,bΩ',rfl,hlo⟩:=frames hR
   cases bΩ' with
   |nil=>have:=hR.S.shape.1;simp at this
   |cons bo1 bΩ1=>
    have hl1:bo1.length=XD.length:=by
     obtain⟨gr,h1,h2⟩:=hR.S.shape.2 1 XD rfl;simp at h1;rw[h1];exact h2
    have xY:Keep (cB::Ω) β (XD::Ω1) (bo1::bΩ1):=hkp;have hst':Step ([]::cB::Ω) ([]::β) σ w (own::XD::Ω1) (bo::bo1::bΩ1) σ' w':=hst;exact⟨hR.defers,v,hv,v,_,_,σ',_,rfl,amH hR.S,xY.trans (Vo hl1),⟨hst'.size,hst'.os,hst'.output,fun b hb ho=>hst'.far b hb (fun x=>ho (Az x)),hst'.near,fun b hb=>(hst'.own b (aiF hR.S hb)).imp Az id⟩,amG hl1 hrep,q2⟩
  ·exact q2.elim
 cases e with
 |normal=>exact main hq
 |ret=>exact main hq
 |_=>exact hq.elim
def Rs(P:Program)(rs:List ResultVar)(post:V->Store->Prop)(s:St)(r:R):Prop:=r.1/\match s.st with
 |own::cB::Ω=>post (r.2.mg cB.length) ((cB++own.map (Obj.mg cB.length))::Ω)
 |_=>False
@[congr] theorem akT {rs:List ResultVar} {post:V->Store->Prop} {s s':St} {r r':R} (h1:s=s') (h2:r=r'):Rs P rs post s r=Rs P rs post s' r':=by rw[h1,h2]
theorem adL{rs:List ResultVar}{post:V->Store->Prop}{tm:List (Nat×V)}{S:Store}:XC P rs post .ret ⟨tm,S⟩=Rs P rs post ⟨tm,S⟩ (nL P rs ⟨tm,S⟩):=rfl
theorem Ug{rs:List ResultVar}{post:V->Store->Prop}{tm:List (Nat×V)}{S:Store}:XC P rs post .normal ⟨tm,S⟩=Rs P rs post ⟨tm,S⟩ (nL P rs ⟨tm,S⟩):=rfl
theorem agW{rs:List ResultVar}{post:V->Store->Prop}{tm:List (Nat×V)}{own cB:List Obj}{Ω:Store}{p:Prop}{v:V}:
 Rs P rs post ⟨tm,own::cB::Ω⟩ (p,v)=(p/\post (v.mg cB.length) ((cB++own.map (Obj.mg cB.length))::Ω)):=rfl
theorem Gt{f:FuncId}{fn:Func}{c:Code}{args:List V}{cB:List Obj}{Ω:Store}{post:V->Store->Prop}{rs:List ResultVar}(eH:P.follows .mixedOrders=true)(hf:P.funcs[f]? =some fn)(hN:fn.ntmps=N)
 (hb:fn.body=some c) (hn:(fn.name== "runtime.NumGoroutine")=false) (hr:fn.results.toList=rs) (hl:Nat.ble args.length N=true) (hok:codeOk N c=true)
 (h:CW P N c (XC P rs post) ⟨lu (args.map (V.up 1)) 0,[]::cB::Ω⟩):bY P f args (cB::Ω) post:=by
 subst hN;subst hr;exact aaA hf hb hn (Nat.le_of_ble_eq_true hl) (gV eH c _ _ hok h)
theorem mgK_0{n j:Nat}:DF n (0,j)=(0,n+j):=rfl
theorem mgK_1{n l j:Nat}:DF n (1+l,j)=(l,j):=by rw[Nat.add_comm];rfl
end
attribute [go_sem ↓] adL Ug
attribute [go_sem] agW V.mg C.mg Obj.mg mgK_0 mgK_1
section
variable {P:Program} {N:Nat} {S:Store} {s:St} {tm:List (Nat×V)}
def Iw(E:Md)(R:Array Oper)(K:St->Prop)(s:St):Prop:=Il E R s.tm=true/\K s
@[congr] theorem ajU {E:Md} {R:Array Oper} {K:St->Prop} {s s':St} (h2:s=s'):Iw E R K s=Iw E R K s':=by rw[h2]
def xR(P:Program)(N:Nat):Code->(Exit->St->Prop)->St->Prop
 | .seq x y,Q,s=>xR P N x (jG (xR P N y Q) Q) s
 | .region _ R true,Q,s=>rJ P (r9 R N) R R.toList s (Iw (r9 R N) R (Q .normal))
 | .region id R false,Q,s=>CW P N (.region id R false) Q s
 | .cond c x y,Q,s=>CW P N (.cond c x y) Q s
 | .block id c,Q,s=>CW P N (.block id c) Q s
 | .exit id,Q,s=>CW P N (.exit id) Q s
 | .ret,Q,s=>CW P N .ret Q s
 | .skip,Q,s=>CW P N .skip Q s
 | .loop c,Q,s=>CW P N (.loop c) Q s
 |_,_,_=>False
def DI(N:Nat):Code->Bool
 | .seq x y=>DI N x&&DI N y
 | .region _ R true=>Er R N
 |c=>codeOk N c
theorem Gu(eH:P.follows .mixedOrders=true):∀(c:Code)(Q:Exit->St->Prop)(s:St),DI N c=true->xR P N c Q s->AW P N c Q s
 | .seq x y,Q,s,ok,h=>by
   simp only[DI,Bool.and_eq_true] at ok;refine KM (AW.mono (Gu eH x _ s ok.1 h) fun e s' h'=> ?_)
   cases e with
   |normal=>exact Gu eH y Q s' ok.2 h'
   |_=>exact h'
 | .region _ R true,Q,s,ok,h=>Jd eH ok h
 | .region id R false,Q,s,ok,h=>gV eH _ Q s ok h
 | .cond c x y,Q,s,ok,h=>gV eH _ Q s ok h
 | .block id c,Q,s,ok,h=>gV eH _ Q s ok h
 | .exit id,Q,s,ok,h=>gV eH _ Q s ok h
 | .ret,Q,s,ok,h=>gV eH _ Q s ok h
 | .skip,Q,s,ok,h=>gV eH _ Q s ok h
 | .loop c,Q,s,ok,h=>gV eH _ Q s ok h
 | .rangeFunc _ _ _ _,Q,s,ok,h=>h.elim
 | .scope _,Q,s,ok,h=>h.elim
 | .label _,Q,s,ok,h=>h.elim
 | .goto _,Q,s,ok,h=>h.elim
 | .refuse _,Q,s,ok,h=>h.elim
theorem agX{x y:Code}{Q:Exit->St->Prop}:xR P N (.seq x y) Q s=xR P N x (jG (xR P N y Q) Q) s:=by rw[xR]
theorem adM{id:Nat}{l:List Oper}{Q:Exit->St->Prop}:xR P N (.region id ⟨l⟩ true) Q s=rJ P (r9 ⟨l⟩ N) ⟨l⟩ l s (Iw (r9 ⟨l⟩ N) ⟨l⟩ (Q .normal)):=by rw[xR]
theorem XE{id:Nat}{l:List Oper}{Q:Exit->St->Prop}:xR P N (.region id ⟨l⟩ false) Q s=CW P N (.region id ⟨l⟩ false) Q s:=by rw[xR]
theorem adN{c:Operand}{x y:Code}{Q:Exit->St->Prop}:xR P N (.cond c x y) Q s=CW P N (.cond c x y) Q s:=by rw[xR]
theorem agY{Q:Exit->St->Prop}:xR P N .ret Q s=CW P N .ret Q s:=by rw[xR]
theorem adO{Q:Exit->St->Prop}:xR P N .skip Q s=CW P N .skip Q s:=by rw[xR]
theorem Cj{f:FuncId}{fn:Func}{c:Code}{args:List V}{post:V->Store->Prop}{rs:List ResultVar}(eH:P.follows .mixedOrders=true)(hf:P.funcs[f]? =some fn)(hN:fn.ntmps=N)
 (hb:fn.body=some c) (hn:(fn.name== "runtime.NumGoroutine")=false) (hr:fn.results.toList=rs) (hl:Nat.ble args.length N=true) (hok:DI N c=true)
 (h:xR P N c (JL P rs post) ⟨lu (args.map (V.up 1)) 0,[]::S⟩):bY P f args S post:=by
 subst hN;subst hr;exact uZ hf hb hn (Nat.le_of_ble_eq_true hl) (Gl tZ (Gu eH c _ _ hok h))
end
attribute [go_sem ↓] agX adM XE adN agY adO
section
variable {P:Program} {N:Nat} {S:Store} {s:St} {tm:List (Nat×V)}
def nC(P:Program)(N:Nat):Code->(Exit->St->Prop)->St->Prop
 | .seq x y,Q,s=>nC P N x (jG (nC P N y Q) Q) s
 | .region _ R true,Q,s=>rJ P (r9 R N) R R.toList s (Iw (r9 R N) R (Q .normal))
 | .region id R false,Q,s=>CW P N (.region id R false) Q s
 | .cond c x y,Q,s=>yN (ev s.tm c) (nC P N x Q) (nC P N y Q) s
 | .block id c,Q,s=>nC P N c (wT id Q) s
 | .exit id,Q,s=>CW P N (.exit id) Q s
 | .ret,Q,s=>CW P N .ret Q s
 | .skip,Q,s=>CW P N .skip Q s
 | .loop c,Q,s=>CW P N (.loop c) Q s
 |_,_,_=>False
theorem agZ{x y:Code}{Q:Exit->St->Prop}:nC P N (.seq x y) Q s=nC P N x (jG (nC P N y Q) Q) s:=by rw[nC]
theorem adP{id:Nat}{l:List Oper}{Q:Exit->St->Prop}:nC P N (.region id ⟨l⟩ true) Q s=rJ P (r9 ⟨l⟩ N) ⟨l⟩ l s (Iw (r9 ⟨l⟩ N) ⟨l⟩ (Q .normal)):=by rw[nC]
theorem XF{id:Nat}{l:List Oper}{Q:Exit->St->Prop}:nC P N (.region id ⟨l⟩ false) Q s=CW P N (.region id ⟨l⟩ false) Q s:=by rw[nC]
theorem adQ{c:Operand}{x y:Code}{Q:Exit->St->Prop}:nC P N (.cond c x y) Q s=yN (ev s.tm c) (nC P N x Q) (nC P N y Q) s:=by rw[nC]
theorem aaB{id:Nat}{c:Code}{Q:Exit->St->Prop}:nC P N (.block id c) Q s=nC P N c (wT id Q) s:=by rw[nC]
theorem adR{id:Nat}{Q:Exit->St->Prop}:nC P N (.exit id) Q s=CW P N (.exit id) Q s:=by rw[nC]
theorem ag0{Q:Exit->St->Prop}:nC P N .ret Q s=CW P N .ret Q s:=by rw[nC]
theorem adS{Q:Exit->St->Prop}:nC P N .skip Q s=CW P N .skip Q s:=by rw[nC]
theorem adT{c:Code}{Q:Exit->St->Prop}:nC P N (.loop c) Q s=CW P N (.loop c) Q s:=by rw[nC]
end
attribute [go_sem ↓] agZ adP XF adQ aaB adR ag0 adS adT
end Go.Ab