/-
  SEVERAL TEXTS IN ONE (merged by program): contracts and models, each with its own heading.
-/
import Derived.Test.YtnceiannponbjaaGreatDoorPartDjbC
set_option linter.unusedSimpArgs false
set_option linter.unusedVariables false
namespace Go.Ab
def Bn(n:Nat):Key->Key
 |(0,j)=>(0,n+j)
 |(l+1,j)=>(l,j)
def C.mg(n:Nat):C->C
 | .d x=>.d x
 | .any=>.any
 | .bL k es=>.bL (Bn n k) es
 | .bE es=>.bE es
 | .ptr k off=>.ptr (Bn n k) off
 | .jY cs=>.jY cs
 | .jH k i off=>.jH (Bn n k) i off
 | .gy k=>.gy (Bn n k)
 | .fn f caps=>.fn f (caps.map fun x=>(Bn n x.1,x.2))
 | .mp k=>.mp (Bn n k)
 | .iX m es=>.iX m es
 | .xp k r p=>.xp (Bn n k) r p
 | .xq k r p z i off=>.xq (Bn n k) r p z i off
def V.mg(n:Nat):V->V
 | .c x=>.c (x.mg n)
 | .agg cs=>.agg (cs.map (C.mg n))
 | .d9 xs=>.d9 (xs.map fun y=>(y.1,y.2.map (C.mg n)))
 | .any=>.any
def Obj.mg(n:Nat):Obj->Obj
 | .box cs=>.box (cs.map (C.mg n))
 |o=>o
section
variable {P:Program} {w:World} {σ:Nat->Nat} {own bD:List Obj} {Ω:Store} {bo nH:List Value} {bΩ:Hs}
theorem KQ{n:Nat}{o:Obj}{h:Value}{b:Nat}:owns (o.mg n) h b<->owns o h b:=by
 cases o with
 |box cs=>
  cases h with
  |pointer a=>cases a<;>exact Iff.rfl
  |_=>exact Iff.rfl
 |_=>exact Iff.rfl
theorem zX{k:Key}{o:Obj}(h:aN (own::bD::Ω) k=some o):
 aN ((bD++own.map (Obj.mg bD.length))::Ω) (Bn bD.length k)=some (if k.1=0 then o.mg bD.length else o):=by
 obtain⟨l,j⟩:=k
 cases l with
 |zero=>
  rw[aP] at h;show aN _ (0,bD.length+j)=_;rw[aP,List.getElem?_append_right (by omega),show bD.length+j-bD.length=j by omega,List.getElem?_map,h];rfl
 |succ l=>
  rw[bI] at h;show aN _ (l,j)=some o
  cases l with
  |zero=>
   rw[aP] at h ⊢;rw[List.getElem?_append_left (List.getElem?_eq_some_iff.1 h).1];exact h
  |succ l=>rw[bI] at h ⊢;exact h
theorem zY(hl:nH.length=bD.length){k:Key}{h:Value}(e:aN (bo::nH::bΩ) k=some h):aN ((nH++bo)::bΩ) (Bn bD.length k)=some h:=by
 obtain⟨l,j⟩:=k
 cases l with
 |zero=>
  rw[aP] at e;show aN _ (0,bD.length+j)=_;rw[aP,List.getElem?_append_right (by omega),show bD.length+j-nH.length=j by omega,e]
 |succ l=>
  rw[bI] at e;show aN _ (l,j)=some h
  cases l with
  |zero=>
   rw[aP] at e ⊢;rw[List.getElem?_append_left (List.getElem?_eq_some_iff.1 e).1];exact e
  |succ l=>rw[bI] at e ⊢;exact e
theorem Fp(hl:nH.length=bD.length)(hlo:bo.length=own.length){k:Key}{o:Obj}(h:aN ((bD++own.map (Obj.mg bD.length))::Ω) k=some o):
 ∃k0 o0,Bn bD.length k0=k/\aN (own::bD::Ω) k0=some o0/\o=(if k0.1=0 then o0.mg bD.length else o0)/\aN ((nH++bo)::bΩ) k=aN (bo::nH::bΩ) k0:=by
 obtain⟨l,j⟩:=k
 cases l with
 |zero=>
  rw[aP] at h;by_cases hj:j<bD.length
  ·rw[List.getElem?_append_left hj] at h;refine⟨(1,j),o,rfl,by rw[bI,aP];exact h,rfl,?_⟩;rw[aP,bI,aP,List.getElem?_append_left (by omega)]
  ·rw[List.getElem?_append_right (by omega),List.getElem?_map] at h
   cases hx:own[j-bD.length]? with
   |none=>rw[hx] at h;cases h
   |some x=>
    rw[hx] at h;cases h;refine⟨(0,j-bD.length),x,?_,by rw[aP];exact hx,rfl,?_⟩
    ·show(0,bD.length+(j-bD.length))=(0,j);rw[show bD.length+(j-bD.length)=j by omega]
    ·rw[aP,aP,List.getElem?_append_right (by omega),hl]
 |succ l=>
  rw[bI] at h;exact⟨(l+2,j),o,rfl,by rw[bI,bI];exact h,rfl,by rw[bI,bI,bI]⟩
theorem tK{n:Nat}{k:Key}{o:Obj}:(∀aK es,oV (if k.1=0 then o.mg n else o) aK es->oV o aK es)/\(∀aK es,(if k.1=0 then o.mg n else o)=.dG aK es->o=.dG aK es)/\
 (∀m,(if k.1=0 then o.mg n else o)=.mp m->o=.mp m)/\(∀cs,(if k.1=0 then o.mg n else o)=.box cs->∃cs',o=.box cs')/\(∀rs,(if k.1=0 then o.mg n else o)=.xf rs->o=.xf rs):=by
 by_cases e:k.1=0
 ·simp only[if_pos e];cases o<;>simp[Obj.mg,oV]
 ·simp only[if_neg e];exact⟨fun _ _ h=>h,fun _ _ h=>h,fun _ h=>h,fun cs h=>⟨cs,h⟩,fun _ h=>h⟩
theorem abr(hl:nH.length=bD.length){c:C}{v:Value}(h:fH w σ (own::bD::Ω) (bo::nH::bΩ) c v):
 fH w σ ((bD++own.map (Obj.mg bD.length))::Ω) ((nH++bo)::bΩ) (c.mg bD.length) v:=by
 cases c with
 |d x=>exact h
 |any=>exact trivial
 |bE es=>exact h
 |jY cs=>exact h
 |iX m es=>exact h
 |xp k r p=>
  obtain⟨o,ho,h2⟩:=h;refine⟨_,zX ho,fun rs e=> ?_⟩;obtain⟨hh,q1,q2⟩:=h2 rs (tK.2.2.2.2 _ e);exact⟨hh,zY hl q1,q2⟩
 |xq k r p z i off=>
  obtain⟨o,ho,h2⟩:=h;refine⟨_,zX ho,fun rs e=> ?_⟩;obtain⟨hh,b,a,n,cap,q1,q2⟩:=h2 rs (tK.2.2.2.2 _ e);exact⟨hh,b,a,n,cap,zY hl q1,q2⟩
 |bL k es=>
  obtain⟨h1,o,ho,h2⟩:=h;refine⟨h1,_,zX ho,fun aK es' e=> ?_⟩;obtain⟨q1,q2⟩:=h2 aK es' (tK.1 _ _ e);exact⟨q1,fun e'=>zY hl (q2 e')⟩
 |ptr k off=>
  obtain⟨o,ho,h2⟩:=h;refine⟨_,zX ho,fun cs e=> ?_⟩;obtain⟨cs',e'⟩:=tK.2.2.2.1 _ e;obtain⟨b,q1,q2⟩:=h2 cs' e';exact⟨b,zY hl q1,q2⟩
 |jH k i off=>
  obtain⟨o,ho,h2⟩:=h;refine⟨_,zX ho,fun aK es e=> ?_⟩;obtain⟨b,n,cap,q1,q2⟩:=h2 aK es (tK.2.1 _ _ e);exact⟨b,n,cap,zY hl q1,q2⟩
 |gy k=>
  obtain⟨o,ho,h2⟩:=h;exact⟨_,zX ho,fun aK es e=>zY hl (h2 aK es (tK.2.1 _ _ e))⟩
 |mp k=>
  obtain⟨o,ho,h2⟩:=h;exact⟨_,zX ho,fun m e=>zY hl (h2 m (tK.2.2.1 _ e))⟩
 |fn f caps=>
  obtain⟨vs,e,hsz,hc⟩:=h;refine⟨vs,e,by rw[hsz,List.length_map],fun j k off hj=> ?_⟩;rw[List.getElem?_map] at hj
  cases hx:caps[j]? with
  |none=>rw[hx] at hj;cases hj
  |some y=>
   rw[hx] at hj;injection hj with hj;injection hj with e1 e2;obtain⟨u,q1,q2,o,q3,q4⟩:=hc j y.1 y.2 hx;refine⟨u,q1,q2,_,by rw[<-e1];exact zX q3,fun cs e=> ?_⟩;obtain⟨cs',e'⟩:=tK.2.2.2.1 _ e;obtain⟨b,q5,q6⟩:=q4 cs' e';exact⟨b,by rw[<-e1];exact zY hl q5,by rw[<-e2];exact q6⟩
theorem Vs(hl:nH.length=bD.length){cs:List C}{vs:List Value}(h:dS w σ (own::bD::Ω) (bo::nH::bΩ) cs vs):
 dS w σ ((bD++own.map (Obj.mg bD.length))::Ω) ((nH++bo)::bΩ) (cs.map (C.mg bD.length)) vs:=by
 refine⟨by rw[List.length_map];exact h.1,fun j x hj=> ?_⟩;rw[List.getElem?_map] at hj
 cases hx:cs[j]? with
 |none=>rw[hx] at hj;cases hj
 |some y=>
  rw[hx] at hj;cases hj;obtain⟨v,h1,h2,h3⟩:=h.2 j y hx;exact⟨v,h1,abr hl h2,h3⟩
theorem aja(hl:nH.length=bD.length){x:V}{v:Value}(h:bT w σ (own::bD::Ω) (bo::nH::bΩ) x v):
 bT w σ ((bD++own.map (Obj.mg bD.length))::Ω) ((nH++bo)::bΩ) (x.mg bD.length) v:=by
 cases x with
 |c x=>exact⟨abr hl h.1,h.2⟩
 |agg cs=>obtain⟨a,ha,hc⟩:=h;exact⟨a,ha,Vs hl hc⟩
 |any=>exact trivial
 |d9 xs=>
  obtain⟨a,ha,hlen,hc⟩:=h;refine⟨a,ha,by rw[List.length_map];exact hlen,fun j y hj=> ?_⟩;rw[List.getElem?_map] at hj
  cases hx:xs[j]? with
  |none=>rw[hx] at hj;cases hj
  |some z=>
   rw[hx] at hj;cases hj;obtain⟨u,hu,hr⟩:=hc j z hx;refine⟨u,hu,?_⟩;obtain⟨b,cs⟩:=z
   cases b with
   |true=>obtain⟨a',e,hcs⟩:=hr;exact⟨a',e,Vs hl hcs⟩
   |false=>obtain⟨x1,e,hx1,ho⟩:=hr;subst e;exact⟨_,rfl,abr hl hx1,ho⟩
theorem Te(hl:nH.length=bD.length):Keep (bD::Ω) (nH::bΩ) ((bD++own.map (Obj.mg bD.length))::Ω) ((nH++bo)::bΩ):=by
 rintro⟨l,j⟩ o h
 cases l with
 |zero=>
  rw[aP] at h;have hj:=(List.getElem?_eq_some_iff.1 h).1;refine⟨o,by rw[aP,List.getElem?_append_left hj];exact h,?_⟩;rw[aP,aP,List.getElem?_append_left (by omega)];exact jV.refl _ _
 |succ l=>
  rw[bI] at h;exact⟨o,by rw[bI];exact h,by rw[bI,bI];exact jV.refl _ _⟩
theorem ajb(hS:dB w σ (own::bD::Ω) (bo::nH::bΩ)):dB w σ ((bD++own.map (Obj.mg bD.length))::Ω) ((nH++bo)::bΩ):=by
 have hlo:bo.length=own.length:=by
  obtain⟨gr,h1,h2⟩:=hS.shape.2 0 own rfl;simp at h1;rw[h1];exact h2
 have hl:nH.length=bD.length:=by
  obtain⟨gr,h1,h2⟩:=hS.shape.2 1 bD rfl;simp at h1;rw[h1];exact h2
 have hn:dH w σ w σ:=dH.refl _ _;refine⟨fun k o ho=> ?_,fun k k' o o' h h' b e1 e2 e3 e4 e5 e6=> ?_,⟨by have:=hS.shape.1;simpa using this,fun l fr hfr=> ?_⟩,hS.live,hS.qo⟩
 ·obtain⟨k0,o0,hk,ho0,rfl,hh⟩:=Fp (bo:=bo) (bΩ:=bΩ) hl hlo ho;obtain⟨h,h1,h2⟩:=hS.obj k0 o0 ho0;refine⟨h,by rw[hh];exact h1,?_⟩;obtain⟨l0,j0⟩:=k0
  cases l0 with
  |zero=>
   subst hk;have h2:fD w σ (own::bD::Ω) (bo::nH::bΩ) o0 h:=h2;show fD w σ ((bD++own.map (Obj.mg bD.length))::Ω) ((nH++bo)::bΩ) (o0.mg bD.length) h
   cases o0 with
   |box cs=>
    obtain⟨b,c,t,e,q1,q2,q3⟩:=h2;exact⟨b,c,t,e,q1,q2,Vs hl q3⟩
   |dead=>exact trivial
   |tok aK es=>exact h2
   |dG aK es=>exact h2
   |mp m=>exact h2
   |dY n aK es=>exact h2
   |seed n=>exact trivial
   |xf rs=>exact h2
  |succ l0=>
   have hk':k=(l0,j0):=hk.symm;subst hk';have h2:fD w σ ((bD::Ω).drop l0) ((nH::bΩ).drop l0) o0 h:=h2;exact h2.mono hn ((Te hl).drop l0) fun _ _=>⟨rfl,rfl⟩
 ·obtain⟨k0,o0,hk,ho0,ho,hh⟩:=Fp (bo:=bo) (bΩ:=bΩ) hl hlo e1;obtain⟨k1,o1,hk1,ho1,ho',Dg⟩:=Fp (bo:=bo) (bΩ:=bΩ) hl hlo e4;rw[hh] at e2;rw[Dg] at e5
  have b0:owns o0 h b:=by
   rw[ho] at e3;split at e3
   ·rw[KQ] at e3;exact e3
   ·exact e3
  have b1:owns o1 h' b:=by
   rw[ho'] at e6;split at e6
   ·rw[KQ] at e6;exact e6
   ·exact e6
  have:=hS.apart k0 k1 o0 o1 h h' b ho0 e2 b0 ho1 e5 b1;rw[<-hk,<-hk1,this]
 ·cases l with
  |zero=>
   simp at hfr;exact⟨_,rfl,by rw[<-hfr];simp[hl,hlo]⟩
  |succ l=>exact hS.shape.2 (l+2) fr (by simpa using hfr)
theorem afT(hS:dB w σ (own::bD::Ω) (bo::nH::bΩ)){b:Nat}(h:Own ((bD++own.map (Obj.mg bD.length))::Ω) ((nH++bo)::bΩ) b):Own (own::bD::Ω) (bo::nH::bΩ) b:=by
 have hlo:bo.length=own.length:=by
  obtain⟨gr,h1,h2⟩:=hS.shape.2 0 own rfl;simp at h1;rw[h1];exact h2
 have hl:nH.length=bD.length:=by
  obtain⟨gr,h1,h2⟩:=hS.shape.2 1 bD rfl;simp at h1;rw[h1];exact h2
 obtain⟨k,o,hv,e1,e2,e3⟩:=h;obtain⟨k0,o0,hk,ho0,ho,hh⟩:=Fp (bo:=bo) (bΩ:=bΩ) hl hlo e1;rw[hh] at e2;refine⟨k0,o0,hv,ho0,e2,?_⟩;rw[ho] at e3;split at e3
 ·rw[KQ] at e3;exact e3
 ·exact e3
end
def Pk(P:Program)(rs:List ResultVar)(post:V->Store->Prop)(e:Exit)(s:St):Prop:=
 match e with
 | .normal| .ret=>(mo P rs s).1/\match s.st with
   |own::bD::Ω=>post ((mo P rs s).2.mg bD.length) ((bD++own.map (Obj.mg bD.length))::Ω)
   |_=>False
 |_=>False
section
variable {P:Program} {N:Nat} {s:St}
theorem LC{f:FuncId}{fn:Func}{c:Code}{args:List V}{bD:List Obj}{Ω:Store}{post:V->Store->Prop}(hf:P.funcs[f]? =some fn)(hb:fn.body=some c)(hn:(fn.name== "runtime.NumGoroutine")=false)
 (hl:args.length<=fn.ntmps)(h:AW P fn.ntmps c (Pk P fn.results.toList post) ⟨jW (args.map (V.up 1)) 0,[]::bD::Ω⟩):bF P f args (bD::Ω) post:=by
 refine⟨⟨fn,hf,hn,by simp[hb]⟩,fun w σ β vs hS hargs=> ?_⟩;refine calls_of_wp hf hb ?_;have hlen:vs.length=args.length:=hargs.1.symm
 have OB:iL fn.ntmps ⟨jW (args.map (V.up 1)) 0,[]::bD::Ω⟩ {tmps:=vs.toArray++Array.replicate (fn.ntmps-vs.toArray.size) undef,defers:=[]} w σ ([]::β):=by
  refine⟨by simp;omega,rfl,hS.up1,fun t=> ?_⟩;show bT w σ ([]::bD::Ω) ([]::β) (look (jW (args.map (V.up 1)) 0) t) _;rw[yt,if_pos (Nat.zero_le _),Nat.sub_zero,List.getElem?_map]
  cases ha:args[t]? with
  |none=>exact trivial
  |some x=>
   obtain⟨v,hv,hr⟩:=hargs.2 t x ha;have ht:=(List.getElem?_eq_some_iff.1 hv).1
   have:(vs.toArray++Array.replicate (fn.ntmps-vs.toArray.size) undef).getD t undef=v:=by
    rw[Array.getD_eq_getD_getElem?,Array.getElem?_append_left (by simpa using ht)];simp[hv]
   rw[this];exact EZ (S:=[]::bD::Ω) (β:=[]::β) 1 hr
 refine wp_mono (h _ w σ ([]::β) OB) ?_;rintro e a' w' ⟨s',σ',β',hR,hst,hkp,hq⟩
 have main:((mo P fn.results.toList s').1/\match s'.st with
  |own::bD::Ω=>post ((mo P fn.results.toList s').2.mg bD.length) ((bD++own.map (Obj.mg bD.length))::Ω)
  |_=>False)->
   a'.defers=[]/\∃v,(results fn a'.tmps).run P w'=.ok v w'/\∃v_1 r S' σ' β',Ending.returned v=Ending.returned v_1/\dB w' σ' S' β'/\Keep (bD::Ω) β S' β'/\Step (bD::Ω) β σ w S' β' σ' w'/\bT w' σ' S' β' r v_1/\post r S':=by
  rintro⟨q1,q2⟩;obtain⟨v,hv,hrep⟩:=DK (fn:=fn) hR q1;obtain⟨tm,st⟩:=s';simp only at q2;split at q2
  ·rename_i own Vt Ω1;obtain⟨bo,bΩ',rfl,hlo⟩:=frames hR
   cases bΩ' with
   |nil=>have:=hR.S.shape.1;simp at this
   |cons bo1 bΩ1=>
    have hl1:bo1.length=Vt.length:=by
     obtain⟨gr,h1,h2⟩:=hR.S.shape.2 1 Vt rfl;simp at h1;rw[h1];exact h2
    have vI:Keep (bD::Ω) β (Vt::Ω1) (bo1::bΩ1):=hkp;have hst':Step ([]::bD::Ω) ([]::β) σ w (own::Vt::Ω1) (bo::bo1::bΩ1) σ' w':=hst;exact⟨hR.defers,v,hv,v,_,_,σ',_,rfl,ajb hR.S,vI.trans (Te hl1),⟨hst'.size,hst'.os,hst'.output,fun b hb ho=>hst'.far b hb (fun x=>ho (yJ x)),hst'.near,fun b hb=>(hst'.own b (afT hR.S hb)).imp yJ id⟩,aja hl1 hrep,q2⟩
  ·exact q2.elim
 cases e with
 |normal=>exact main hq
 |ret=>exact main hq
 |_=>exact hq.elim
def Pm(P:Program)(rs:List ResultVar)(post:V->Store->Prop)(s:St)(r:R):Prop:=r.1/\match s.st with
 |own::bD::Ω=>post (r.2.mg bD.length) ((bD++own.map (Obj.mg bD.length))::Ω)
 |_=>False
@[congr] theorem ahH {rs:List ResultVar} {post:V->Store->Prop} {s s':St} {r r':R} (h1:s=s') (h2:r=r'):Pm P rs post s r=Pm P rs post s' r':=by rw[h1,h2]
theorem abt{rs:List ResultVar}{post:V->Store->Prop}{tm:List (Nat×V)}{S:Store}:Pk P rs post .ret ⟨tm,S⟩=Pm P rs post ⟨tm,S⟩ (mo P rs ⟨tm,S⟩):=rfl
theorem RN{rs:List ResultVar}{post:V->Store->Prop}{tm:List (Nat×V)}{S:Store}:Pk P rs post .normal ⟨tm,S⟩=Pm P rs post ⟨tm,S⟩ (mo P rs ⟨tm,S⟩):=rfl
theorem aed{rs:List ResultVar}{post:V->Store->Prop}{tm:List (Nat×V)}{own bD:List Obj}{Ω:Store}{p:Prop}{v:V}:
 Pm P rs post ⟨tm,own::bD::Ω⟩ (p,v)=(p/\post (v.mg bD.length) ((bD++own.map (Obj.mg bD.length))::Ω)):=rfl
theorem LD{f:FuncId}{fn:Func}{c:Code}{args:List V}{bD:List Obj}{Ω:Store}{post:V->Store->Prop}{rs:List ResultVar}(eZ:P.follows .mixedOrders=true)(hf:P.funcs[f]? =some fn)(hN:fn.ntmps=N)
 (hb:fn.body=some c) (hn:(fn.name== "runtime.NumGoroutine")=false) (hr:fn.results.toList=rs) (hl:Nat.ble args.length N=true) (hok:codeOk N c=true)
 (h:CW P N c (Pk P rs post) ⟨jW (args.map (V.up 1)) 0,[]::bD::Ω⟩):bF P f args (bD::Ω) post:=by
 subst hN;subst hr;exact LC hf hb hn (Nat.le_of_ble_eq_true hl) (je eZ c _ _ hok h)
theorem mgK_0{n j:Nat}:Bn n (0,j)=(0,n+j):=rfl
theorem mgK_1{n l j:Nat}:Bn n (1+l,j)=(l,j):=by rw[Nat.add_comm];rfl
end
attribute [go_sem ↓] abt RN
attribute [go_sem] aed V.mg C.mg Obj.mg mgK_0 mgK_1
section
variable {P:Program} {N:Nat} {S:Store} {s:St} {tm:List (Nat×V)}
def Fq(E:Md)(R:Array Oper)(K:St->Prop)(s:St):Prop:=Nu E R s.tm=true/\K s
@[congr] theorem agU {E:Md} {R:Array Oper} {K:St->Prop} {s s':St} (h2:s=s'):Fq E R K s=Fq E R K s':=by rw[h2]
def xY(P:Program)(N:Nat):Code->(Exit->St->Prop)->St->Prop
 | .seq x y,Q,s=>xY P N x (iY (xY P N y Q) Q) s
 | .region _ R true,Q,s=>qx P (wP R N) R R.toList s (Fq (wP R N) R (Q .normal))
 | .region id R false,Q,s=>CW P N (.region id R false) Q s
 | .cond c x y,Q,s=>CW P N (.cond c x y) Q s
 | .block id c,Q,s=>CW P N (.block id c) Q s
 | .exit id,Q,s=>CW P N (.exit id) Q s
 | .ret,Q,s=>CW P N .ret Q s
 | .skip,Q,s=>CW P N .skip Q s
 | .loop c,Q,s=>CW P N (.loop c) Q s
 |_,_,_=>False
theorem aee{x y:Code}{Q:Exit->St->Prop}:xY P N (.seq x y) Q s=xY P N x (iY (xY P N y Q) Q) s:=by rw[xY]
theorem abu{id:Nat}{l:List Oper}{Q:Exit->St->Prop}:xY P N (.region id ⟨l⟩ true) Q s=qx P (wP ⟨l⟩ N) ⟨l⟩ l s (Fq (wP ⟨l⟩ N) ⟨l⟩ (Q .normal)):=by rw[xY]
theorem Vu{id:Nat}{l:List Oper}{Q:Exit->St->Prop}:xY P N (.region id ⟨l⟩ false) Q s=CW P N (.region id ⟨l⟩ false) Q s:=by rw[xY]
theorem abv{c:Operand}{x y:Code}{Q:Exit->St->Prop}:xY P N (.cond c x y) Q s=CW P N (.cond c x y) Q s:=by rw[xY]
theorem aef{Q:Exit->St->Prop}:xY P N .ret Q s=CW P N .ret Q s:=by rw[xY]
theorem abw{Q:Exit->St->Prop}:xY P N .skip Q s=CW P N .skip Q s:=by rw[xY]
end
attribute [go_sem ↓] aee abu Vu abv aef abw
section
variable {P:Program} {N:Nat} {S:Store} {s:St} {tm:List (Nat×V)}
def og(P:Program)(N:Nat):Code->(Exit->St->Prop)->St->Prop
 | .seq x y,Q,s=>og P N x (iY (og P N y Q) Q) s
 | .region _ R true,Q,s=>qx P (wP R N) R R.toList s (Fq (wP R N) R (Q .normal))
 | .region id R false,Q,s=>CW P N (.region id R false) Q s
 | .cond c x y,Q,s=>yw (ev s.tm c) (og P N x Q) (og P N y Q) s
 | .block id c,Q,s=>og P N c (uN id Q) s
 | .exit id,Q,s=>CW P N (.exit id) Q s
 | .ret,Q,s=>CW P N .ret Q s
 | .skip,Q,s=>CW P N .skip Q s
 | .loop c,Q,s=>CW P N (.loop c) Q s
 |_,_,_=>False
theorem aeg{x y:Code}{Q:Exit->St->Prop}:og P N (.seq x y) Q s=og P N x (iY (og P N y Q) Q) s:=by rw[og]
theorem abx{id:Nat}{l:List Oper}{Q:Exit->St->Prop}:og P N (.region id ⟨l⟩ true) Q s=qx P (wP ⟨l⟩ N) ⟨l⟩ l s (Fq (wP ⟨l⟩ N) ⟨l⟩ (Q .normal)):=by rw[og]
theorem Vv{id:Nat}{l:List Oper}{Q:Exit->St->Prop}:og P N (.region id ⟨l⟩ false) Q s=CW P N (.region id ⟨l⟩ false) Q s:=by rw[og]
theorem aby{c:Operand}{x y:Code}{Q:Exit->St->Prop}:og P N (.cond c x y) Q s=yw (ev s.tm c) (og P N x Q) (og P N y Q) s:=by rw[og]
theorem YA{id:Nat}{c:Code}{Q:Exit->St->Prop}:og P N (.block id c) Q s=og P N c (uN id Q) s:=by rw[og]
theorem abz{id:Nat}{Q:Exit->St->Prop}:og P N (.exit id) Q s=CW P N (.exit id) Q s:=by rw[og]
theorem aeh{Q:Exit->St->Prop}:og P N .ret Q s=CW P N .ret Q s:=by rw[og]
theorem abA{Q:Exit->St->Prop}:og P N .skip Q s=CW P N .skip Q s:=by rw[og]
theorem abB{c:Code}{Q:Exit->St->Prop}:og P N (.loop c) Q s=CW P N (.loop c) Q s:=by rw[og]
end
attribute [go_sem ↓] aeg abx Vv aby YA abz aeh abA abB
end Go.Ab