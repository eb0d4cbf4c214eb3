/-
  SEVERAL TEXTS IN ONE (merged by program): contracts and models, each with its own heading.
-/
import Derived.Test.YtnmjbebcebbmfaaGreatPartHibD
import Derived.Test.YtnmjbebcebbmfaaGreatPartHibE
import Derived.Lib.AppendZeros
import Derived.Laws.Cover3
set_option maxHeartbeats 8000000
open Go.Proofs Go.Proofs.Tryz
set_option linter.unusedSimpArgs false
set_option linter.unusedVariables false
set_option maxRecDepth 4000
namespace Go.Ab
def xQ(n:Nat):Key->Key
 |(0,j)=>(0,n+j)
 |(l+1,j)=>(l,j)
def C.mg(n:Nat):C->C
 | .d x=>.d x
 | .any=>.any
 | .bM k es=>.bM (xQ n k) es
 | .bF es=>.bF es
 | .ptr k off=>.ptr (xQ n k) off
 | .iY cs=>.iY cs
 | .iO k i off=>.iO (xQ n k) i off
 | .eP k=>.eP (xQ n k)
 | .fn f caps=>.fn f (caps.map fun x=>(xQ n x.1,x.2))
 | .mp k=>.mp (xQ n k)
 | .kF m es=>.kF m es
 | .xp k r p=>.xp (xQ n k) r p
 | .xq k r p z i off=>.xq (xQ n k) r p z i off
 | .oW k m u=>.oW (xQ n k) m u
def V.mg(n:Nat):V->V
 | .c x=>.c (x.mg n)
 | .agg cs=>.agg (cs.map (C.mg n))
 | .gq xs=>.gq (xs.map fun y=>(y.1,y.2.map (C.mg n)))
 | .any=>.any
def Obj.mg(n:Nat):Obj->Obj
 | .box cs=>.box (cs.map (C.mg n))
 |o=>o
section
variable {P:Program} {w:World} {σ:Nat->Nat} {own bT:List Obj} {Ω:Store} {bo mH:List Value} {bΩ:Hs}
theorem GV{n:Nat}{o:Obj}{h:Value}{b:Nat}:owns (o.mg n) h b<->owns o h b:=by
 cases o with
 |box cs=>
  cases h with
  |pointer a=>cases a<;>exact ec
  |_=>exact ec
 |_=>exact ec
theorem vZ{k:Key}{o:Obj}(h:aN (own::bT::Ω) k=some o):
 aN ((bT++own.map (Obj.mg bT.length))::Ω) (xQ bT.length k)=some (if k.1=0 then o.mg bT.length else o):=by
 obtain⟨l,j⟩:=k
 cases l with
 |zero=>
  rw[aJ] at h;show aN _ (0,bT.length+j)=_;rw[aJ,am (by omega),show bT.length+j-bT.length=j by omega,aV,h];rfl
 |succ l=>
  rw[bB] at h;show aN _ (l,j)=some o
  cases l with
  |zero=>
   rw[aJ] at h ⊢;rw[an (ai.1 h).1];exact h
  |succ l=>rw[bB] at h ⊢;exact h
theorem wh(hl:mH.length=bT.length){k:Key}{h:Value}(e:aN (bo::mH::bΩ) k=some h):aN ((mH++bo)::bΩ) (xQ bT.length k)=some h:=by
 obtain⟨l,j⟩:=k
 cases l with
 |zero=>
  rw[aJ] at e;show aN _ (0,bT.length+j)=_;rw[aJ,am (by omega),show bT.length+j-mH.length=j by omega,e]
 |succ l=>
  rw[bB] at e;show aN _ (l,j)=some h
  cases l with
  |zero=>
   rw[aJ] at e ⊢;rw[an (ai.1 e).1];exact e
  |succ l=>rw[bB] at e ⊢;exact e
theorem BU(hl:mH.length=bT.length)(hlo:bo.length=own.length){k:Key}{o:Obj}(h:aN ((bT++own.map (Obj.mg bT.length))::Ω) k=some o):
 ∃k0 o0,xQ bT.length k0=k/\aN (own::bT::Ω) k0=some o0/\o=(if k0.1=0 then o0.mg bT.length else o0)/\aN ((mH++bo)::bΩ) k=aN (bo::mH::bΩ) k0:=by
 obtain⟨l,j⟩:=k
 cases l with
 |zero=>
  rw[aJ] at h;by_cases hj:j<bT.length
  ·rw[an hj] at h;refine⟨(1,j),o,rfl,by rw[bB,aJ];exact h,rfl,?_⟩;rw[aJ,bB,aJ,an (by omega)]
  ·rw[am (by omega),aV] at h
   cases hx:own[j-bT.length]? with
   |none=>rw[hx] at h;cases h
   |some x=>
    rw[hx] at h;cases h;refine⟨(0,j-bT.length),x,?_,by rw[aJ];exact hx,rfl,?_⟩
    ·show(0,bT.length+(j-bT.length))=(0,j);rw[show bT.length+(j-bT.length)=j by omega]
    ·rw[aJ,aJ,am (by omega),hl]
 |succ l=>
  rw[bB] at h;exact⟨(l+2,j),o,rfl,by rw[bB,bB];exact h,rfl,by rw[bB,bB,bB]⟩
theorem qb{n:Nat}{k:Key}{o:Obj}:(∀aM es,lT (if k.1=0 then o.mg n else o) aM es->lT o aM es)/\(∀aM es,(if k.1=0 then o.mg n else o)=.cZ aM es->o=.cZ aM es)/\
 (∀m,(if k.1=0 then o.mg n else o)=.mp m->o=.mp m)/\(∀cs,(if k.1=0 then o.mg n else o)=.box cs->∃cs',o=.box cs')/\(∀rs,(if k.1=0 then o.mg n else o)=.xf rs->o=.xf rs):=by
 by_cases e:k.1=0
 ·simp only[if_pos e];cases o<;>simp[Obj.mg,lT]
 ·simp only[if_neg e];exact⟨fun _ _ h=>h,fun _ _ h=>h,fun _ h=>h,fun cs h=>⟨cs,h⟩,fun _ h=>h⟩
theorem WZ(hl:mH.length=bT.length){c:C}{v:Value}(h:fu w σ (own::bT::Ω) (bo::mH::bΩ) c v):
 fu w σ ((bT++own.map (Obj.mg bT.length))::Ω) ((mH++bo)::bΩ) (c.mg bT.length) v:=by
 cases c with
 |d x=>exact h
 |any=>exact trivial
 |bF es=>exact h
 |iY cs=>exact h
 |kF m es=>exact h
 |xp k r p=>
  obtain⟨o,ho,h2⟩:=h;refine⟨_,vZ ho,fun rs e=> ?_⟩;obtain⟨hh,q1,q2⟩:=h2 rs (qb.2.2.2.2 _ e);exact⟨hh,wh hl q1,q2⟩
 |xq k r p z i off=>
  obtain⟨o,ho,h2⟩:=h;refine⟨_,vZ ho,fun rs e=> ?_⟩;obtain⟨hh,b,a,n,cap,q1,q2⟩:=h2 rs (qb.2.2.2.2 _ e);exact⟨hh,b,a,n,cap,wh hl q1,q2⟩
 |bM k es=>
  obtain⟨h1,o,ho,h2⟩:=h;refine⟨h1,_,vZ ho,fun aM es' e=> ?_⟩;obtain⟨q1,q2⟩:=h2 aM es' (qb.1 _ _ e);exact⟨q1,fun e'=>wh hl (q2 e')⟩
 |oW k m u=>
  obtain⟨h1,o,ho,h2⟩:=h;refine⟨h1,_,vZ ho,fun aM es' e=> ?_⟩;obtain⟨q1,q2⟩:=h2 aM es' (qb.1 _ _ e);exact⟨q1,fun e'=>wh hl (q2 e')⟩
 |ptr k off=>
  obtain⟨o,ho,h2⟩:=h;refine⟨_,vZ ho,fun cs e=> ?_⟩;obtain⟨cs',e'⟩:=qb.2.2.2.1 _ e;obtain⟨b,q1,q2⟩:=h2 cs' e';exact⟨b,wh hl q1,q2⟩
 |iO k i off=>
  obtain⟨o,ho,h2⟩:=h;refine⟨_,vZ ho,fun aM es e=> ?_⟩;obtain⟨b,n,cap,q1,q2⟩:=h2 aM es (qb.2.1 _ _ e);exact⟨b,n,cap,wh hl q1,q2⟩
 |eP k=>
  obtain⟨o,ho,h2⟩:=h;exact⟨_,vZ ho,fun aM es e=>wh hl (h2 aM es (qb.2.1 _ _ e))⟩
 |mp k=>
  obtain⟨o,ho,h2⟩:=h;exact⟨_,vZ ho,fun m e=>wh hl (h2 m (qb.2.2.1 _ e))⟩
 |fn f caps=>
  obtain⟨vs,e,hsz,hc⟩:=h;refine⟨vs,e,by rw[hsz,al],fun j k off hj=> ?_⟩;rw[aV] at hj
  cases hx:caps[j]? with
  |none=>rw[hx] at hj;cases hj
  |some y=>
   rw[hx] at hj;injection hj with hj;injection hj with e1 e2;obtain⟨u,q1,q2,o,q3,q4⟩:=hc j y.1 y.2 hx;refine⟨u,q1,q2,_,by rw[<-e1];exact vZ q3,fun cs e=> ?_⟩;obtain⟨cs',e'⟩:=qb.2.2.2.1 _ e;obtain⟨b,q5,q6⟩:=q4 cs' e';exact⟨b,by rw[<-e1];exact wh hl q5,by rw[<-e2];exact q6⟩
theorem QF(hl:mH.length=bT.length){cs:List C}{vs:List Value}(h:dS w σ (own::bT::Ω) (bo::mH::bΩ) cs vs):
 dS w σ ((bT++own.map (Obj.mg bT.length))::Ω) ((mH++bo)::bΩ) (cs.map (C.mg bT.length)) vs:=by
 refine⟨by rw[al];exact h.1,fun j x hj=> ?_⟩;rw[aV] at hj
 cases hx:cs[j]? with
 |none=>rw[hx] at hj;cases hj
 |some y=>
  rw[hx] at hj;cases hj;obtain⟨v,h1,h2,h3⟩:=h.2 j y hx;exact⟨v,h1,WZ hl h2,h3⟩
theorem aeM(hl:mH.length=bT.length){x:V}{v:Value}(h:cu w σ (own::bT::Ω) (bo::mH::bΩ) x v):
 cu w σ ((bT++own.map (Obj.mg bT.length))::Ω) ((mH++bo)::bΩ) (x.mg bT.length) v:=by
 cases x with
 |c x=>exact⟨WZ hl h.1,h.2⟩
 |agg cs=>obtain⟨a,ha,hc⟩:=h;exact⟨a,ha,QF hl hc⟩
 |any=>exact trivial
 |gq xs=>
  obtain⟨a,ha,hlen,hc⟩:=h;refine⟨a,ha,by rw[al];exact hlen,fun j y hj=> ?_⟩;rw[aV] at hj
  cases hx:xs[j]? with
  |none=>rw[hx] at hj;cases hj
  |some z=>
   rw[hx] at hj;cases hj;obtain⟨u,hu,hr⟩:=hc j z hx;refine⟨u,hu,?_⟩;obtain⟨b,cs⟩:=z
   cases b with
   |true=>obtain⟨a',e,hcs⟩:=hr;exact⟨a',e,QF hl hcs⟩
   |false=>obtain⟨x1,e,hx1,ho⟩:=hr;subst e;exact⟨_,rfl,WZ hl hx1,ho⟩
theorem Oj(hl:mH.length=bT.length):Keep (bT::Ω) (mH::bΩ) ((bT++own.map (Obj.mg bT.length))::Ω) ((mH++bo)::bΩ):=by
 rintro⟨l,j⟩ o h
 cases l with
 |zero=>
  rw[aJ] at h;have hj:=(ai.1 h).1;refine⟨o,by rw[aJ,an hj];exact h,?_⟩;rw[aJ,aJ,an (by omega)];exact iU.refl _ _
 |succ l=>
  rw[bB] at h;exact⟨o,by rw[bB];exact h,by rw[bB,bB];exact iU.refl _ _⟩
theorem aeN(hS:dM w σ (own::bT::Ω) (bo::mH::bΩ)):dM w σ ((bT++own.map (Obj.mg bT.length))::Ω) ((mH++bo)::bΩ):=by
 have hlo:bo.length=own.length:=by
  obtain⟨gr,h1,h2⟩:=hS.shape.2 0 own rfl;simp at h1;rw[h1];exact h2
 have hl:mH.length=bT.length:=by
  obtain⟨gr,h1,h2⟩:=hS.shape.2 1 bT rfl;simp at h1;rw[h1];exact h2
 have hn:dR w σ w σ:=dR.refl _ _;refine⟨fun k o ho=> ?_,fun k k' o o' h h' b e1 e2 e3 e4 e5 e6=> ?_,⟨by have:=hS.shape.1;simpa using this,fun l fr hfr=> ?_⟩,hS.live,hS.qp⟩
 ·obtain⟨k0,o0,hk,ho0,rfl,hh⟩:=BU (bo:=bo) (bΩ:=bΩ) hl hlo ho;obtain⟨h,h1,h2⟩:=hS.obj k0 o0 ho0;refine⟨h,by rw[hh];exact h1,?_⟩;obtain⟨l0,j0⟩:=k0
  cases l0 with
  |zero=>
   subst hk;have h2:eT w σ (own::bT::Ω) (bo::mH::bΩ) o0 h:=h2;show eT w σ ((bT++own.map (Obj.mg bT.length))::Ω) ((mH++bo)::bΩ) (o0.mg bT.length) h
   cases o0 with
   |box cs=>
    obtain⟨b,c,t,e,q1,q2,q3⟩:=h2;exact⟨b,c,t,e,q1,q2,QF hl q3⟩
   |dead=>exact trivial
   |tok aM es=>exact h2
   |cZ aM es=>exact h2
   |mp m=>exact h2
   |gX n aM es=>exact h2
   |seed n=>exact trivial
   |xf rs=>exact h2
  |succ l0=>
   have hk':k=(l0,j0):=hk.symm;subst hk';have h2:eT w σ ((bT::Ω).drop l0) ((mH::bΩ).drop l0) o0 h:=h2;exact h2.mono hn ((Oj hl).drop l0) fun _ _=>⟨rfl,rfl⟩
 ·obtain⟨k0,o0,hk,ho0,ho,hh⟩:=BU (bo:=bo) (bΩ:=bΩ) hl hlo e1;obtain⟨k1,o1,hk1,ho1,ho',yN⟩:=BU (bo:=bo) (bΩ:=bΩ) hl hlo e4;rw[hh] at e2;rw[yN] at e5
  have b0:owns o0 h b:=by
   rw[ho] at e3;split at e3
   ·rw[GV] at e3;exact e3
   ·exact e3
  have b1:owns o1 h' b:=by
   rw[ho'] at e6;split at e6
   ·rw[GV] at e6;exact e6
   ·exact e6
  have:=hS.apart k0 k1 o0 o1 h h' b ho0 e2 b0 ho1 e5 b1;rw[<-hk,<-hk1,this]
 ·cases l with
  |zero=>
   simp at hfr;exact⟨_,rfl,by rw[<-hfr];simp[hl,hlo]⟩
  |succ l=>exact hS.shape.2 (l+2) fr (by simpa using hfr)
theorem aa9(hS:dM w σ (own::bT::Ω) (bo::mH::bΩ)){b:Nat}(h:Own ((bT++own.map (Obj.mg bT.length))::Ω) ((mH++bo)::bΩ) b):Own (own::bT::Ω) (bo::mH::bΩ) b:=by
 have hlo:bo.length=own.length:=by
  obtain⟨gr,h1,h2⟩:=hS.shape.2 0 own rfl;simp at h1;rw[h1];exact h2
 have hl:mH.length=bT.length:=by
  obtain⟨gr,h1,h2⟩:=hS.shape.2 1 bT rfl;simp at h1;rw[h1];exact h2
 obtain⟨k,o,hv,e1,e2,e3⟩:=h;obtain⟨k0,o0,hk,ho0,ho,hh⟩:=BU (bo:=bo) (bΩ:=bΩ) hl hlo e1;rw[hh] at e2;refine⟨k0,o0,hv,ho0,e2,?_⟩;rw[ho] at e3;split at e3
 ·rw[GV] at e3;exact e3
 ·exact e3
end
def QG(P:Program)(rs:List ResultVar)(post:V->Store->Prop)(e:Exit)(s:St):Prop:=
 match e with
 | .normal| .ret=>(kS P rs s).1/\match s.st with
   |own::bT::Ω=>post ((kS P rs s).2.mg bT.length) ((bT++own.map (Obj.mg bT.length))::Ω)
   |_=>False
 |_=>False
section
variable {P:Program} {N:Nat} {s:St}
theorem T9{f:FuncId}{fn:Func}{c:Code}{args:List V}{bT:List Obj}{Ω:Store}{post:V->Store->Prop}(hf:P.funcs[f]? =some fn)(hb:fn.body=some c)(hn:(fn.name== "runtime.NumGoroutine")=false)
 (hl:args.length<=fn.ntmps)(h:AW P fn.ntmps c (QG P fn.results.toList post) ⟨jZ (args.map (V.up 1)) 0,[]::bT::Ω⟩):bK P f args (bT::Ω) post:=by
 refine⟨⟨fn,hf,hn,by simp[hb]⟩,fun w σ β vs hS hargs=> ?_⟩;refine calls_of_wp hf hb ?_;have hlen:vs.length=args.length:=hargs.1.symm
 have Kw:iq fn.ntmps ⟨jZ (args.map (V.up 1)) 0,[]::bT::Ω⟩ {tmps:=vs.toArray++Array.replicate (fn.ntmps-vs.toArray.size) undef,defers:=[]} w σ ([]::β):=by
  refine⟨by simp;omega,rfl,hS.Yp,fun t=> ?_⟩;show cu w σ ([]::bT::Ω) ([]::β) (look (jZ (args.map (V.up 1)) 0) t) _;rw[vU,if_pos (ao _),Nat.sub_zero,aV]
  cases ha:args[t]? with
  |none=>exact trivial
  |some x=>
   obtain⟨v,hv,hr⟩:=hargs.2 t x ha;have ht:=(ai.1 hv).1
   have:(vs.toArray++Array.replicate (fn.ntmps-vs.toArray.size) undef).getD t undef=v:=by
    rw[cS,cw (by simpa using ht)];simp[hv]
   rw[this];exact BM (S:=[]::bT::Ω) (β:=[]::β) 1 hr
 refine wp_mono (h _ w σ ([]::β) Kw) ?_;rintro e a' w' ⟨s',σ',β',hR,hst,hkp,hq⟩
 have main:((kS P fn.results.toList s').1/\match s'.st with
  |own::bT::Ω=>post ((kS P fn.results.toList s').2.mg bT.length) ((bT++own.map (Obj.mg bT.length))::Ω)
  |_=>False)->
   a'.defers=[]/\∃v,(results fn a'.tmps).run P w'=.ok v w'/\∃v_1 r S' σ' β',Ending.returned v=Ending.returned v_1/\dM w' σ' S' β'/\Keep (bT::Ω) β S' β'/\Step (bT::Ω) β σ w S' β' σ' w'/\cu w' σ' S' β' r v_1/\post r S':=by
  rintro⟨q1,q2⟩;obtain⟨v,hv,hrep⟩:=Aw (fn:=fn) hR q1;obtain⟨tm,st⟩:=s';simp only at q2;split at q2
  ·rename_i own QH Ω1;obtain⟨bo,bΩ',rfl,hlo⟩:=frames hR
   cases bΩ' with
   |nil=>have:=hR.S.shape.1;simp at this
   |cons bo1 bΩ1=>
    have hl1:bo1.length=QH.length:=by
     obtain⟨gr,h1,h2⟩:=hR.S.shape.2 1 QH rfl;simp at h1;rw[h1];exact h2
    have tO:Keep (bT::Ω) β (QH::Ω1) (bo1::bΩ1):=hkp;have hst':Step ([]::bT::Ω) ([]::β) σ w (own::QH::Ω1) (bo::bo1::bΩ1) σ' w':=hst;exact⟨hR.defers,v,hv,v,_,_,σ',_,rfl,aeN hR.S,tO.trans (Oj hl1),⟨hst'.size,hst'.os,hst'.output,fun b hb ho=>hst'.far b hb (fun x=>ho (wD x)),hst'.near,fun b hb=>(hst'.own b (aa9 hR.S hb)).imp wD id⟩,aeM hl1 hrep,q2⟩
  ·exact q2.elim
 cases e with
 |normal=>exact main hq
 |ret=>exact main hq
 |_=>exact hq.elim
def Lv(P:Program)(rs:List ResultVar)(post:V->Store->Prop)(s:St)(r:R):Prop:=r.1/\match s.st with
 |own::bT::Ω=>post (r.2.mg bT.length) ((bT++own.map (Obj.mg bT.length))::Ω)
 |_=>False
@[congr] theorem ac3 {rs:List ResultVar} {post:V->Store->Prop} {s s':St} {r r':R} (h1:s=s') (h2:r=r'):Lv P rs post s r=Lv P rs post s' r':=by rw[h1,h2]
theorem W9{rs:List ResultVar}{post:V->Store->Prop}{tm:List (Nat×V)}{S:Store}:QG P rs post .ret ⟨tm,S⟩=Lv P rs post ⟨tm,S⟩ (kS P rs ⟨tm,S⟩):=rfl
theorem Ns{rs:List ResultVar}{post:V->Store->Prop}{tm:List (Nat×V)}{S:Store}:QG P rs post .normal ⟨tm,S⟩=Lv P rs post ⟨tm,S⟩ (kS P rs ⟨tm,S⟩):=rfl
theorem ZJ{rs:List ResultVar}{post:V->Store->Prop}{tm:List (Nat×V)}{own bT:List Obj}{Ω:Store}{p:Prop}{v:V}:
 Lv P rs post ⟨tm,own::bT::Ω⟩ (p,v)=(p/\post (v.mg bT.length) ((bT++own.map (Obj.mg bT.length))::Ω)):=rfl
theorem Ua{f:FuncId}{fn:Func}{c:Code}{args:List V}{bT:List Obj}{Ω:Store}{post:V->Store->Prop}{rs:List ResultVar}(fK:P.follows .mixedOrders=true)(hf:P.funcs[f]? =some fn)(hN:fn.ntmps=N)
 (hb:fn.body=some c) (hn:(fn.name== "runtime.NumGoroutine")=false) (hr:fn.results.toList=rs) (hl:Nat.ble args.length N=true) (hok:codeOk N c=true)
 (h:CW P N c (QG P rs post) ⟨jZ (args.map (V.up 1)) 0,[]::bT::Ω⟩):bK P f args (bT::Ω) post:=by
 subst hN;subst hr;exact T9 hf hb hn (dc hl) (jR fK c _ _ hok h)
theorem mgK_0{n j:Nat}:xQ n (0,j)=(0,n+j):=rfl
theorem mgK_1{n l j:Nat}:xQ n (1+l,j)=(l,j):=by rw[dT];rfl
end
attribute [go_sem ↓] W9 Ns
attribute [go_sem] ZJ V.mg C.mg Obj.mg mgK_0 mgK_1
theorem vK:∀n:Nat,(∀x:ah,SizeOf.sizeOf x<n->∀y:ah,x.sz<=4194304->aT prog 152 [x.v,y.v] (.c (.d (.b (dec (x=y))))))/\
 (∀xs:List ah,SizeOf.sizeOf xs<n->∀ys:List ah,xs.length+aH (xs.map ah.enc)<=4194304->aT prog 159 [.c (.d (.sl (xs.map ah.enc))),.c (.d (.sl (ys.map ah.enc)))] (.c (.d (.b (dec (xs=ys))))))
 |0=>⟨fun x h=>by omega,fun x h=>by omega⟩
 |n+1=>by
  obtain⟨ih,Li⟩:=vK n;refine⟨fun x hn y hsz S=> ?_,fun xs hn ys hsz S=> ?_⟩
  ·have kH:=ah.gM x;simp only[ah.sz,ah.aB,aY,bG,D.sz,al] at hsz;refine zcx [.tmp 4] func152 ntmps152 ?_;simp -implicitDefEqProofs (disch:=omega) only[go_sem]
   with_reducible refine aj (fun hb=> ?_) (fun hb=> ?_)<;>have h:=hb<;>(try simp only[wf_preprocess] at h)<;>simp -implicitDefEqProofs (disch:=omega) only[go_sem,hb]<;>(repeat(with_reducible refine And.intro ?_ ?_;focus first|omega|rfl|assumption|exact⟨_,rfl,rfl⟩|(simp;omega)|(simp;done)))
   ·with_reducible refine aj (fun hb=> ?_) (fun hb=> ?_)<;>have h:=hb<;>(try simp only[wf_preprocess] at h)<;>simp -implicitDefEqProofs (disch:=omega) only[go_sem,hb]<;>(repeat(with_reducible refine And.intro ?_ ?_;focus first|omega|rfl|assumption|exact⟨_,rfl,rfl⟩|(simp;omega)|(simp;done)))
    ·(repeat(with_reducible refine And.intro ?_ ?_;focus first|omega|rfl|assumption|exact⟨_,rfl,rfl⟩|(simp;omega)|(simp;done)))
     refine au (Li x.fArgs (by omega) y.fArgs (by omega)) ?_;simp -implicitDefEqProofs (disch:=omega) only[go_sem];refine ay (dY ⟨fun e=> ?_,fun e=>by rw[e]⟩);exact ah.ext ‹x.aW=y.aW› h e
    ·exact ay (aI (fun e=>h (by rw[e]))).symm
   ·exact ay (aI (fun e=>h (by rw[e]))).symm
  ·refine zcx [.tmp 4] func159 ntmps159 ?_;simp -implicitDefEqProofs (disch:=omega) only[go_sem]
   with_reducible refine aj (fun hb=> ?_) (fun hb=> ?_)<;>have h:=hb<;>(try simp only[wf_preprocess] at h)<;>simp -implicitDefEqProofs (disch:=omega) only[go_sem,hb]<;>(repeat(with_reducible refine And.intro ?_ ?_;focus first|omega|rfl|assumption|exact⟨_,rfl,rfl⟩|(simp;omega)|(simp;done)))
   ·exact ay (aI (fun e=>h (by rw[e]))).symm
   have hl:xs.length=ys.length:=by omega
   refine bn (ι:=Nat) zmx rfl [0,1,5] (fun y=>[.c (.d (.sl (xs.map ah.enc))),.c (.d (.sl (ys.map ah.enc))),.c (.d (.i .i64 y))]) (fun y=>[]::S)
    (fun i=>i<=xs.length/\∀j,j<i->xs[j]? =ys[j]?) (fun y=>xs.length-y) 0 rfl rfl ⟨ao _,fun j h=>by omega⟩ ?_
   rintro i ⟨p1,p2⟩;simp -implicitDefEqProofs (disch:=omega) only[go_sem]
   with_reducible refine aj (fun hb=> ?_) (fun hb=> ?_)<;>have h:=hb<;>(try simp only[wf_preprocess] at h)<;>simp -implicitDefEqProofs (disch:=omega) only[go_sem,hb]<;>(repeat(with_reducible refine And.intro ?_ ?_;focus first|omega|rfl|assumption|exact⟨_,rfl,rfl⟩|(simp;omega)|(simp;done)))
   ·have hi:i<xs.length:=by omega
    have hi':i<ys.length:=by omega
    have hx:xs[i].sz<=aH (xs.map ah.enc):=dK (bd (ac hi))
    (repeat(with_reducible refine And.intro ?_ ?_;focus first|omega|rfl|assumption|exact⟨_,rfl,rfl⟩|(simp;omega)|(simp;done)))
    refine au (ih xs[i] (by have:=be (ac hi);omega) ys[i] (by omega)) ?_;simp -implicitDefEqProofs (disch:=omega) only[go_sem]
    with_reducible refine aj (fun hb=> ?_) (fun hb=> ?_)<;>have h:=hb<;>(try simp only[wf_preprocess] at h)<;>simp -implicitDefEqProofs (disch:=omega) only[go_sem,hb]<;>(repeat(with_reducible refine And.intro ?_ ?_;focus first|omega|rfl|assumption|exact⟨_,rfl,rfl⟩|(simp;omega)|(simp;done)))
    ·exact ay (aI (fun e=>h (by simp only[e]))).symm
    refine bU (i+1) (by omega) rfl rfl ⟨by omega,fun j hj=> ?_⟩;by_cases e:j=i
    ·subst e;rw[ag hi,ag hi',h]
    ·exact p2 j (by omega)
   ·have hi:i=xs.length:=by omega
    refine ay (bg (cy fun j=> ?_)).symm;by_cases hj:j<i
    ·exact p2 j hj
    ·rw[bp (by omega),bp (by omega)]
theorem DL(x y:ah)(h:x.sz<=4194304):aT prog 152 [x.v,y.v] (.c (.d (.b (dec (x=y))))):=(vK _).1 x (cg _) y h
theorem vL:∀n:Nat,(∀x:ah,SizeOf.sizeOf x<n->∀y:ah,x.sz<=4194304->aT prog 123 [x.v,y.v] (.c (.d (.b (dec (x=y))))))/\
 (∀xs:List ah,SizeOf.sizeOf xs<n->∀ys:List ah,xs.length+aH (xs.map ah.enc)<=4194304->aT prog 146 [.c (.d (.sl (xs.map ah.enc))),.c (.d (.sl (ys.map ah.enc))),.c (.fn 123 [])] (.c (.d (.b (dec (xs=ys))))))
 |0=>⟨fun x h=>by omega,fun x h=>by omega⟩
 |n+1=>by
  obtain⟨ih,Li⟩:=vL n;refine⟨fun x hn y hsz S=> ?_,fun xs hn ys hsz S=> ?_⟩
  ·have kH:=ah.gM x;simp only[ah.sz,ah.aB,aY,bG,D.sz,al] at hsz;refine zcx [.tmp 4] func123 ntmps123 ?_;simp -implicitDefEqProofs (disch:=omega) only[go_sem]
   with_reducible refine aj (fun hb=> ?_) (fun hb=> ?_)<;>have h:=hb<;>(try simp only[wf_preprocess] at h)<;>simp -implicitDefEqProofs (disch:=omega) only[go_sem,hb]<;>(repeat(with_reducible refine And.intro ?_ ?_;focus first|omega|rfl|assumption|exact⟨_,rfl,rfl⟩|(simp;omega)|(simp;done)))
   ·with_reducible refine aj (fun hb=> ?_) (fun hb=> ?_)<;>have h:=hb<;>(try simp only[wf_preprocess] at h)<;>simp -implicitDefEqProofs (disch:=omega) only[go_sem,hb]<;>(repeat(with_reducible refine And.intro ?_ ?_;focus first|omega|rfl|assumption|exact⟨_,rfl,rfl⟩|(simp;omega)|(simp;done)))
    ·(repeat(with_reducible refine And.intro ?_ ?_;focus first|omega|rfl|assumption|exact⟨_,rfl,rfl⟩|(simp;omega)|(simp;done)))
     refine au (Li x.fArgs (by omega) y.fArgs (by omega)) ?_;simp -implicitDefEqProofs (disch:=omega) only[go_sem];refine ay (dY ⟨fun e=> ?_,fun e=>by rw[e]⟩);exact ah.ext ‹x.aW=y.aW› h e
    ·exact ay (aI (fun e=>h (by rw[e]))).symm
   ·exact ay (aI (fun e=>h (by rw[e]))).symm
  ·refine zcx [.tmp 6] func146 ntmps146 ?_;simp -implicitDefEqProofs (disch:=omega) only[go_sem]
   with_reducible refine aj (fun hb=> ?_) (fun hb=> ?_)<;>have h:=hb<;>(try simp only[wf_preprocess] at h)<;>simp -implicitDefEqProofs (disch:=omega) only[go_sem,hb]<;>(repeat(with_reducible refine And.intro ?_ ?_;focus first|omega|rfl|assumption|exact⟨_,rfl,rfl⟩|(simp;omega)|(simp;done)))
   ·exact ay (aI (fun e=>h (by rw[e]))).symm
   have hl:xs.length=ys.length:=by omega
   refine bn (ι:=Nat) zmx rfl [1,2,15,16,17] (fun y=>[.c (.d (.sl (ys.map ah.enc))),.c (.fn 123 []),.c (.d (.sl (xs.map ah.enc))),.c (.d (.i .i64 xs.length)),.c (.d (.i .i64 y))]) (fun y=>[]::S)
    (fun i=>i<=xs.length/\∀j,j<i->xs[j]? =ys[j]?) (fun y=>xs.length-y) 0 rfl rfl ⟨ao _,fun j h=>by omega⟩ ?_
   rintro i ⟨p1,p2⟩;simp -implicitDefEqProofs (disch:=omega) only[go_sem]
   with_reducible refine aj (fun hb=> ?_) (fun hb=> ?_)<;>have h:=hb<;>(try simp only[wf_preprocess] at h)<;>simp -implicitDefEqProofs (disch:=omega) only[go_sem,hb]<;>(repeat(with_reducible refine And.intro ?_ ?_;focus first|omega|rfl|assumption|exact⟨_,rfl,rfl⟩|(simp;omega)|(simp;done)))
   ·have hi:i<xs.length:=by omega
    have hi':i<ys.length:=by omega
    have hx:xs[i].sz<=aH (xs.map ah.enc):=dK (bd (ac hi))
    (repeat(with_reducible refine And.intro ?_ ?_;focus first|omega|rfl|assumption|exact⟨_,rfl,rfl⟩|(simp;omega)|(simp;done)))
    refine au (ih xs[i] (by have:=be (ac hi);omega) ys[i] (by omega)) ?_;simp -implicitDefEqProofs (disch:=omega) only[go_sem]
    with_reducible refine aj (fun hb=> ?_) (fun hb=> ?_)<;>have h:=hb<;>(try simp only[wf_preprocess] at h)<;>simp -implicitDefEqProofs (disch:=omega) only[go_sem,hb]<;>(repeat(with_reducible refine And.intro ?_ ?_;focus first|omega|rfl|assumption|exact⟨_,rfl,rfl⟩|(simp;omega)|(simp;done)))
    ·exact ay (aI (fun e=>h (by simp only[e]))).symm
    refine dL 0 (by decide) (i+1) (by omega) rfl rfl rfl rfl ⟨by omega,fun j hj=> ?_⟩;by_cases e:j=i
    ·subst e;rw[ag hi,ag hi',h]
    ·exact p2 j (by omega)
   ·have hi:i=xs.length:=by omega
    refine ay (bg (cy fun j=> ?_)).symm;by_cases hj:j<i
    ·exact p2 j hj
    ·rw[bp (by omega),bp (by omega)]
theorem DN(x y:ah)(h:x.sz<=4194304):aT prog 123 [x.v,y.v] (.c (.d (.b (dec (x=y))))):=(vL _).1 x (cg _) y h
theorem FI:∀n:Nat,(∀x:ah,SizeOf.sizeOf x<n->x.sz<=4194304->aT prog 122 [x.v] x.v)/\
 (∀xs:List ah,SizeOf.sizeOf xs<n->xs.length+aH (xs.map ah.enc)<=4194304->aT prog 145 [.c (.d (.sl (xs.map ah.enc)))] (.c (.d (.sl (xs.map ah.enc)))))
 |0=>⟨fun x h=>by omega,fun x h=>by omega⟩
 |n+1=>by
  obtain⟨ih,Li⟩:=FI n;refine⟨fun x hn hsz S=> ?_,fun xs hn hsz S=> ?_⟩
  ·have kH:=ah.gM x;simp only[ah.sz,ah.aB,aY,bG,D.sz,al] at hsz;refine zcx [.cell 2 73] func122 ntmps122 ?_;simp -implicitDefEqProofs (disch:=omega) only[go_sem];refine au (Li x.fArgs (by omega) (by omega)) ?_;simp -implicitDefEqProofs (disch:=omega) only[go_sem]
  ·refine zcx [.tmp 2] func145 ntmps145 ?_;simp -implicitDefEqProofs (disch:=omega) only[go_sem];refine jL 3 3 [] rfl (by simp) ?_
   refine bn (ι:=Nat×List (List D)) zmx rfl [0,3,4] (fun y=>[.c (.d (.sl (xs.map ah.enc))),.c (.bM (0,0) y.2),.c (.d (.i .i64 y.1))]) (fun y=>[.tok 3 y.2]::S)
    (fun y=>y.1<=xs.length/\y.2=(xs.map ah.enc).take y.1) (fun y=>xs.length-y.1) (0,[]) rfl rfl ⟨ao _,rfl⟩ ?_
   rintro⟨i,es⟩ ⟨p1,p2⟩;simp only at p1 p2
   have pl:es.length<=xs.length:=by rw[p2];simp;omega
   simp -implicitDefEqProofs (disch:=omega) only[go_sem]
   with_reducible refine aj (fun hb=> ?_) (fun hb=> ?_)<;>have h:=hb<;>(try simp only[wf_preprocess] at h)<;>simp -implicitDefEqProofs (disch:=omega) only[go_sem,hb]<;>(repeat(with_reducible refine And.intro ?_ ?_;focus first|omega|rfl|assumption|exact⟨_,rfl,rfl⟩|(simp;omega)|(simp;done)))
   ·have hi:i<xs.length:=by omega
    have hx:xs[i].sz<=aH (xs.map ah.enc):=dK (bd (ac hi))
    (repeat(with_reducible refine And.intro ?_ ?_;focus first|omega|rfl|assumption|exact⟨_,rfl,rfl⟩|(simp;omega)|(simp;done)))
    refine au (ih xs[i] (by have:=be (ac hi);omega) (by omega)) ?_;simp -implicitDefEqProofs (disch:=omega) only[go_sem]
    (repeat(with_reducible refine And.intro ?_ ?_;focus first|omega|rfl|assumption|exact⟨_,rfl,rfl⟩|(simp;omega)|(simp;done)))
    exact bU (i+1,_) (by simp only;omega) rfl rfl ⟨by simp only;omega,by rw[p2];simp[cE,hi,ah.aB]⟩
   ·have hi:i=xs.length:=by omega
    rw[p2,bi (by rw[al];omega)]
theorem Ub(x:ah)(h:x.sz<=4194304):aT prog 122 [x.v] x.v:=(FI _).1 x (cg _) h
theorem aZ.bounds{x:aZ}(h:x.sz<=4194304):x.fName.length<=4194304/\x.aO.length<=4194304/\x.aK.length<=4194304/\∀s∈x.aO,s.length<=4194304:=by
 simp only[aZ.sz,aZ.aB,aY,bG,D.sz,al] at h;refine⟨by omega,by omega,by omega,fun s hs=> ?_⟩;have:=mG hs;omega
theorem aZ.JA{x:aZ}{i:Nat}(hi:i<x.aK.length)(h:x.sz<=4194304):x.aK[i].sz<=4194304:=by
 have hx:x.aK[i].sz<=aH (x.aK.map aU.enc):=dK (bd (ac hi));simp only[aZ.sz,aZ.aB,aY,bG,D.sz,al] at h;omega
theorem aU.bounds{x:aU}(h:x.sz<=4194304):x.fName.length<=4194304/\x.jg.length<=4194304/\∀t∈x.jg,t.sz<=4194304:=by
 simp only[aU.sz,aU.aB,aY,bG,D.sz,al] at h;refine⟨by omega,by omega,fun t ht=> ?_⟩;have hx:t.sz<=aH (x.jg.map ah.enc):=dK (bd ht);omega
noncomputable def lN(vars:List (List UInt8))(c:aU):Bool:=dec (c.jg.length<=4)&&ji vars c.jg
noncomputable def iJ(d:aZ):List (List UInt8):=d.aK.map aU.fName
noncomputable def eU(d:aZ):Bool:=
 validName d.fName&&(dec (d.aO.length<=3)&&(fU d.aO&&(dec (1<=d.aK.length)&&(dec (d.aK.length<=5)&&(d.aK.all (lN d.aO)&&fU (iJ d))))))
theorem DR(d:aZ)(hsz:d.sz<=4194304):aT prog 72 [d.v] (.c (.d (.b (eU d)))):=fun S=>by
 have hb0:=aZ.bounds hsz
 have bad:∀i,∀hi:i<d.aK.length,lN d.aO d.aK[i]=false->eU d=false:=fun i hi h=>by
  have:d.aK.all (lN d.aO)=false:=cY.2 fun hx=>by
   rw[ax.1 hx _ (ac hi)] at h;cases h
  unfold eU
  rw[this];simp
 refine zcx [.tmp 2] func72 ntmps72 ?_;simp -implicitDefEqProofs (disch:=omega) only[go_sem]
 (repeat(with_reducible refine And.intro ?_ ?_;focus first|omega|rfl|assumption|exact⟨_,rfl,rfl⟩|(simp;omega)|(simp;done)))
 refine jL 3 1 [] rfl (by simp) ?_
 refine bn (ι:=Nat×List (List UInt8)) zmx rfl [1,3,4] (fun y=>[.c (.ptr (0,0) 0),.c (.bM (0,1) (y.2.map encS)),.c (.d (.i .i64 y.1))]) (fun y=>[.box (d.enc.map .d),.tok 1 (y.2.map encS)]::S)
  (fun y=>y.1<=d.aK.length/\y.2=(iJ d).take y.1/\∀j,∀hj:j<d.aK.length,j<y.1->lN d.aO d.aK[j]=true) (fun y=>d.aK.length-y.1) (0,[]) rfl ?_ ⟨ao _,rfl,fun j _ h=>by simp only at h;omega⟩ ?_
 ·simp -implicitDefEqProofs (disch:=omega) only[go_sem]
 rintro⟨i,names⟩ ⟨p1,p2,p3⟩;simp only at p1 p2 p3
 have pl:names.length<=d.aK.length:=by rw[p2];simp[iJ];omega
 simp -implicitDefEqProofs (disch:=omega) only[go_sem]
 with_reducible refine aj (fun hb=> ?_) (fun hb=> ?_)<;>have h:=hb<;>(try simp only[wf_preprocess] at h)<;>simp -implicitDefEqProofs (disch:=omega) only[go_sem,hb]<;>(repeat(with_reducible refine And.intro ?_ ?_;focus first|omega|rfl|assumption|exact⟨_,rfl,rfl⟩|(simp;omega)|(simp;done)))
 ·have hi:i<d.aK.length:=by omega
  have hc:=aU.bounds (aZ.JA hi hsz)
  (repeat(with_reducible refine And.intro ?_ ?_;focus first|omega|rfl|assumption|exact⟨_,rfl,rfl⟩|(simp;omega)|(simp;done)))
  with_reducible refine aj (fun hb=> ?_) (fun hb=> ?_)<;>have h:=hb<;>(try simp only[wf_preprocess] at h)<;>simp -implicitDefEqProofs (disch:=omega) only[go_sem,hb]<;>(repeat(with_reducible refine And.intro ?_ ?_;focus first|omega|rfl|assumption|exact⟨_,rfl,rfl⟩|(simp;omega)|(simp;done)))
  ·rw[bad i hi (by unfold lN;rw[aI (by omega)];rfl)]
  have h1:=h
  (repeat(with_reducible refine And.intro ?_ ?_;focus first|omega|rfl|assumption|exact⟨_,rfl,rfl⟩|(simp;omega)|(simp;done)))
  refine au (Iw d.aK[i].jg d.aO (by omega) hc.2.2 (by omega)) ?_;simp -implicitDefEqProofs (disch:=omega) only[go_sem]<;>(repeat(with_reducible refine And.intro ?_ ?_;focus first|omega|rfl|assumption|exact⟨_,rfl,rfl⟩|(simp;omega)|(simp;done)))
  with_reducible refine aj (fun hb=> ?_) (fun hb=> ?_)<;>have h:=hb<;>(try simp only[wf_preprocess] at h)<;>simp -implicitDefEqProofs (disch:=omega) only[go_sem,hb]<;>(repeat(with_reducible refine And.intro ?_ ?_;focus first|omega|rfl|assumption|exact⟨_,rfl,rfl⟩|(simp;omega)|(simp;done)))
  ·rw[bad i hi (by unfold lN;rw[h];simp)]
  have h2:=h
  (repeat(with_reducible refine And.intro ?_ ?_;focus first|omega|rfl|assumption|exact⟨_,rfl,rfl⟩|(simp;omega)|(simp;done)))
  rw[show List.map encS names++[[D.s d.aK[i].fName]]=List.map encS (names++[d.aK[i].fName]) by simp[encS]]
  exact bU (i+1,names++[d.aK[i].fName]) (by simp only;omega) rfl rfl ⟨by simp only;omega,by simp only;rw[p2,fC (by simpa [iJ] using hi)];simp[iJ],fun j hj hji=>by
   simp only at hji;by_cases e:j=i
   ·subst e;unfold lN;rw[h2,bg (by omega)];rfl
   ·exact p3 j hj (by omega)⟩
 have hi:i=d.aK.length:=by omega
 have hn:names=iJ d:=by rw[p2,bi (by simp[iJ];omega)]
 have hall:d.aK.all (lN d.aO)=true:=ax.2 fun c hc=>by
  obtain⟨j,hj,e⟩:=bm hc;rw[<-e];exact p3 j hj (by omega)
 have hnl:∀s∈names,s.length<=4194304:=fun s hs=>by
  rw[hn] at hs;obtain⟨c,hc,e⟩:=cp.1 hs;obtain⟨j,hj,e'⟩:=bm hc;rw[<-e,<-e'];exact(aU.bounds (aZ.JA hj hsz)).1
 have hlen:names.length=d.aK.length:=by rw[hn];simp[iJ]
 refine au (fB d.fName (by omega)) ?_;simp -implicitDefEqProofs (disch:=omega) only[go_sem]<;>(repeat(with_reducible refine And.intro ?_ ?_;focus first|omega|rfl|assumption|exact⟨_,rfl,rfl⟩|(simp;omega)|(simp;done)))
 with_reducible refine aj (fun hb=> ?_) (fun hb=> ?_)<;>have h:=hb<;>(try simp only[wf_preprocess] at h)<;>simp -implicitDefEqProofs (disch:=omega) only[go_sem,hb]<;>(repeat(with_reducible refine And.intro ?_ ?_;focus first|omega|rfl|assumption|exact⟨_,rfl,rfl⟩|(simp;omega)|(simp;done)))
 ·have h1:=h;refine au (iQ d.aO 3 (by omega) hb0.2.2.2) ?_;simp -implicitDefEqProofs (disch:=omega) only[go_sem]<;>(repeat(with_reducible refine And.intro ?_ ?_;focus first|omega|rfl|assumption|exact⟨_,rfl,rfl⟩|(simp;omega)|(simp;done)))
  with_reducible refine aj (fun hb=> ?_) (fun hb=> ?_)<;>have h:=hb<;>(try simp only[wf_preprocess] at h)<;>simp -implicitDefEqProofs (disch:=omega) only[go_sem,hb]<;>(repeat(with_reducible refine And.intro ?_ ?_;focus first|omega|rfl|assumption|exact⟨_,rfl,rfl⟩|(simp;omega)|(simp;done)))
  ·have h2:=h
   with_reducible refine aj (fun hb=> ?_) (fun hb=> ?_)<;>have h:=hb<;>(try simp only[wf_preprocess] at h)<;>simp -implicitDefEqProofs (disch:=omega) only[go_sem,hb]<;>(repeat(with_reducible refine And.intro ?_ ?_;focus first|omega|rfl|assumption|exact⟨_,rfl,rfl⟩|(simp;omega)|(simp;done)))
   ·have h3:=h;refine au (iQ names 5 (by omega) hnl) ?_;simp -implicitDefEqProofs (disch:=omega) only[go_sem]<;>(repeat(with_reducible refine And.intro ?_ ?_;focus first|omega|rfl|assumption|exact⟨_,rfl,rfl⟩|(simp;omega)|(simp;done)));refine ay ?_;rw[aq] at h2;have h4:=iD h2.1;unfold eU;rw[h1,h2.2,hall,<-hn,bg (show d.aO.length<=3 by omega),bg (show 1<=d.aK.length by omega),hlen];simp only[bj];congr 1;exact dY ⟨fun h=>by omega,fun h=>by omega⟩
   ·refine ay ?_;unfold eU
    rw[aI (show ¬1<=d.aK.length by omega)];simp
  ·refine ay ?_;unfold eU
   have h2:(dec (d.aO.length<=3)&&fU d.aO)=false:=by
    rw[<-h];congr 1;exact dY ⟨fun h=>by omega,fun h=>by omega⟩
   rw[<-ey (dec (d.aO.length<=3)),h2];simp
 ·exact ay (by unfold eU;rw[h];rfl)
theorem DT(d:aZ)(hsz:d.sz<=4194304):aT prog 35 [d.v] (.c (.d (.b (eU d)))):=fun S=>by
 have hb0:=aZ.bounds hsz
 have bad:∀i,∀hi:i<d.aK.length,lN d.aO d.aK[i]=false->eU d=false:=fun i hi h=>by
  have:d.aK.all (lN d.aO)=false:=cY.2 fun hx=>by
   rw[ax.1 hx _ (ac hi)] at h;cases h
  unfold eU
  rw[this];simp
 refine zcx [.tmp 2] func35 ntmps35 ?_;simp -implicitDefEqProofs (disch:=omega) only[go_sem];refine au (fA d.fName (by omega)) ?_;simp -implicitDefEqProofs (disch:=omega) only[go_sem]<;>(repeat(with_reducible refine And.intro ?_ ?_;focus first|omega|rfl|assumption|exact⟨_,rfl,rfl⟩|(simp;omega)|(simp;done)))
 with_reducible refine aj (fun hb=> ?_) (fun hb=> ?_)<;>have h:=hb<;>(try simp only[wf_preprocess] at h)<;>simp -implicitDefEqProofs (disch:=omega) only[go_sem,hb]<;>(repeat(with_reducible refine And.intro ?_ ?_;focus first|omega|rfl|assumption|exact⟨_,rfl,rfl⟩|(simp;omega)|(simp;done)))
 ·exact ay (by unfold eU;rw[h];rfl)
 have h1:=h
 with_reducible refine aj (fun hb=> ?_) (fun hb=> ?_)<;>have h:=hb<;>(try simp only[wf_preprocess] at h)<;>simp -implicitDefEqProofs (disch:=omega) only[go_sem,hb]<;>(repeat(with_reducible refine And.intro ?_ ?_;focus first|omega|rfl|assumption|exact⟨_,rfl,rfl⟩|(simp;omega)|(simp;done)))
 ·exact ay (by unfold eU;rw[aI (show ¬d.aO.length<=3 by omega)];simp)
 have h2:=h;refine au (j5 d.aO (by omega) hb0.2.2.2) ?_;simp -implicitDefEqProofs (disch:=omega) only[go_sem]<;>(repeat(with_reducible refine And.intro ?_ ?_;focus first|omega|rfl|assumption|exact⟨_,rfl,rfl⟩|(simp;omega)|(simp;done)))
 with_reducible refine aj (fun hb=> ?_) (fun hb=> ?_)<;>have h:=hb<;>(try simp only[wf_preprocess] at h)<;>simp -implicitDefEqProofs (disch:=omega) only[go_sem,hb]<;>(repeat(with_reducible refine And.intro ?_ ?_;focus first|omega|rfl|assumption|exact⟨_,rfl,rfl⟩|(simp;omega)|(simp;done)))
 ·exact ay (by unfold eU;rw[h];simp)
 have h3:=h
 with_reducible refine aj (fun hb=> ?_) (fun hb=> ?_)<;>have h:=hb<;>(try simp only[wf_preprocess] at h)<;>simp -implicitDefEqProofs (disch:=omega) only[go_sem,hb]<;>(repeat(with_reducible refine And.intro ?_ ?_;focus first|omega|rfl|assumption|exact⟨_,rfl,rfl⟩|(simp;omega)|(simp;done)))
 ·exact ay (by unfold eU;rw[aI (show ¬1<=d.aK.length by omega)];simp)
 have h4:=h
 with_reducible refine aj (fun hb=> ?_) (fun hb=> ?_)<;>have h:=hb<;>(try simp only[wf_preprocess] at h)<;>simp -implicitDefEqProofs (disch:=omega) only[go_sem,hb]<;>(repeat(with_reducible refine And.intro ?_ ?_;focus first|omega|rfl|assumption|exact⟨_,rfl,rfl⟩|(simp;omega)|(simp;done)))
 ·exact ay (by unfold eU;rw[aI (show ¬d.aK.length<=5 by omega)];simp)
 have h5:=h
 (repeat(with_reducible refine And.intro ?_ ?_;focus first|omega|rfl|assumption|exact⟨_,rfl,rfl⟩|(simp;omega)|(simp;done)))
 refine jL 3 1 [] rfl (by simp) ?_
 refine bn (ι:=Nat×List (List UInt8)) zmx rfl [1,3,36,37,38] (fun y=>[.c (.ptr (0,0) 0),.c (.bM (0,1) (y.2.map encS)),.c (.d (.sl (d.aK.map aU.enc))),.c (.d (.i .i64 d.aK.length)),.c (.d (.i .i64 y.1))]) (fun y=>[.box (d.enc.map .d),.tok 1 (y.2.map encS)]::S)
  (fun y=>y.1<=d.aK.length/\y.2=(iJ d).take y.1/\∀j,∀hj:j<d.aK.length,j<y.1->lN d.aO d.aK[j]=true) (fun y=>d.aK.length-y.1) (0,[]) rfl ?_ ⟨ao _,rfl,fun j _ h=>by simp only at h;omega⟩ ?_
 ·simp -implicitDefEqProofs (disch:=omega) only[go_sem]
 rintro⟨i,names⟩ ⟨p1,p2,p3⟩;simp only at p1 p2 p3
 have pl:names.length<=d.aK.length:=by rw[p2];simp[iJ];omega
 simp -implicitDefEqProofs (disch:=omega) only[go_sem]
 with_reducible refine aj (fun hb=> ?_) (fun hb=> ?_)<;>have h:=hb<;>(try simp only[wf_preprocess] at h)<;>simp -implicitDefEqProofs (disch:=omega) only[go_sem,hb]<;>(repeat(with_reducible refine And.intro ?_ ?_;focus first|omega|rfl|assumption|exact⟨_,rfl,rfl⟩|(simp;omega)|(simp;done)))
 ·have hi:i<d.aK.length:=by omega
  have hc:=aU.bounds (aZ.JA hi hsz)
  (repeat(with_reducible refine And.intro ?_ ?_;focus first|omega|rfl|assumption|exact⟨_,rfl,rfl⟩|(simp;omega)|(simp;done)))
  with_reducible refine aj (fun hb=> ?_) (fun hb=> ?_)<;>have h:=hb<;>(try simp only[wf_preprocess] at h)<;>simp -implicitDefEqProofs (disch:=omega) only[go_sem,hb]<;>(repeat(with_reducible refine And.intro ?_ ?_;focus first|omega|rfl|assumption|exact⟨_,rfl,rfl⟩|(simp;omega)|(simp;done)))
  ·rw[bad i hi (by unfold lN;rw[aI (by omega)];rfl)]
  have k1:=h
  (repeat(with_reducible refine And.intro ?_ ?_;focus first|omega|rfl|assumption|exact⟨_,rfl,rfl⟩|(simp;omega)|(simp;done)))
  refine au (sJ d.aK[i].jg d.aO (by omega) hc.2.2 (by omega)) ?_;simp -implicitDefEqProofs (disch:=omega) only[go_sem]<;>(repeat(with_reducible refine And.intro ?_ ?_;focus first|omega|rfl|assumption|exact⟨_,rfl,rfl⟩|(simp;omega)|(simp;done)))
  with_reducible refine aj (fun hb=> ?_) (fun hb=> ?_)<;>have h:=hb<;>(try simp only[wf_preprocess] at h)<;>simp -implicitDefEqProofs (disch:=omega) only[go_sem,hb]<;>(repeat(with_reducible refine And.intro ?_ ?_;focus first|omega|rfl|assumption|exact⟨_,rfl,rfl⟩|(simp;omega)|(simp;done)))
  ·rw[bad i hi (by unfold lN;rw[h];simp)]
  have k2:=h
  (repeat(with_reducible refine And.intro ?_ ?_;focus first|omega|rfl|assumption|exact⟨_,rfl,rfl⟩|(simp;omega)|(simp;done)))
  rw[show List.map encS names++[[D.s d.aK[i].fName]]=List.map encS (names++[d.aK[i].fName]) by simp[encS]]
  exact dL 2 (by decide) (i+1,names++[d.aK[i].fName]) (by simp only;omega) rfl rfl rfl rfl ⟨by simp only;omega,by simp only;rw[p2,fC (by simpa [iJ] using hi)];simp[iJ],fun j hj hji=>by
   simp only at hji;by_cases e:j=i
   ·subst e;unfold lN;rw[k2,bg (by omega)];rfl
   ·exact p3 j hj (by omega)⟩
 have hi:i=d.aK.length:=by omega
 have hn:names=iJ d:=by rw[p2,bi (by simp[iJ];omega)]
 have hall:d.aK.all (lN d.aO)=true:=ax.2 fun c hc=>by
  obtain⟨j,hj,e⟩:=bm hc;rw[<-e];exact p3 j hj (by omega)
 have hnl:∀s∈names,s.length<=4194304:=fun s hs=>by
  rw[hn] at hs;obtain⟨c,hc,e⟩:=cp.1 hs;obtain⟨j,hj,e'⟩:=bm hc;rw[<-e,<-e'];exact(aU.bounds (aZ.JA hj hsz)).1
 refine au (j5 names (by omega) hnl) ?_;simp -implicitDefEqProofs (disch:=omega) only[go_sem]<;>(repeat(with_reducible refine And.intro ?_ ?_;focus first|omega|rfl|assumption|exact⟨_,rfl,rfl⟩|(simp;omega)|(simp;done)));exact ay (by unfold eU;rw[h1,h3,hall,<-hn,bg (show d.aO.length<=3 by omega),bg (show 1<=d.aK.length by omega),bg (show d.aK.length<=5 by omega)];simp)
theorem Lx{P:Program}{w:World}{t u ty e:TypeId}{base:Option Addr}{n:Nat}{i:TypeInfo}{z:Value}(ht:P.underlying t=some (.slice e))(hu:P.underlying u=some (.int .i64))(hi:P.info? e=some i)
 (hz:i.zero=some z)(h1:1<=n)(hn:n<=1073741824)(hb:i.bytes<=4096)(hs:i.size=z.cells.size):
 ∃(cap:Nat) (row:Array Value),n<=cap/\row.size=cap*z.cells.size/\(Builtin.append_ #[t,u] ty #[.slice base 0 0,.int .i64 n]).run P w=
  .ok (.slice (some ⟨w.heap.size,0,none⟩) n cap) {w.drew with heap:=w.heap.push (.cells row e)}:=by
 have hn1:=Ey n 0 (by omega)
 have h48:¬(281474976710656<Builtin.nextslicecap n 0*i.bytes):=by
  have:Builtin.nextslicecap n 0*i.bytes<=(2*n+512)*4096:=Nat.mul_le_mul hn1 hb;omega
 have h49:¬(281474976710656<(n:Int)*(i.bytes:Int)):=by
  have h2:n*i.bytes<=1073741824*4096:=Nat.mul_le_mul hn hb
  have:(n:Int)*(i.bytes:Int)=((n*i.bytes:Nat):Int):=by simp
  rw[this];omega
 have h63':¬(9223372036854775807<(n:Int)):=by omega
 have hroom':¬(n<=0):=by omega
 have hneg:¬((n:Int)<0):=by omega
 have hn0:¬n=0:=by omega
 have hw:IntKind.i64.wrap (n:Int)=n:=Oc _ (by omega)
 have hmax:IntKind.i64.max=9223372036854775807:=by decide
 have ha:∀w:World,(asInt (.int .i64 (n:Int))).run P w=.ok (n:Int) w:=fun w=>by simp[asInt,asIntOf]
 let cap:=(Question.appendCap n 0 e).cut (w.tape w.drawn (Question.appendCap n 0 e))
 have hcap:n<=cap:=by simp[cap,Question.cut]
 refine⟨cap,#[]++(if n*i.size=0 then #[] else Builtin.zeroCells z.cells n)++Builtin.zeroCells z.cells (cap-n),hcap,?_,?_⟩
 ·by_cases h0:n*i.size=0
  ·rw[if_pos h0]
   have hsz:z.cells.size=0:=by
    rcases Nat.mul_eq_zero.1 h0 with h|h
    ·omega
    ·omega
   simp[Builtin.zeroCells,hsz]
  ·rw[if_neg h0];simp only[Builtin.zeroCells,Array.size_append,Array.size_map,Array.size_range,Array.size_empty,cT];rw[<-ck];congr 1;omega
 ·by_cases h0:n*i.size=0
  ·rw[if_pos h0];cases base<;>simp[Builtin.append_,run_underlying ht,run_underlying hu,sizeOf,typeInfo,zeroValue,hi,hz,hroom',h48,h49,h63',hneg,hw,hmax,Question.forced,newRow,ha,hn0,loadCellsFrom,h0,Builtin.firstCells,loadCells]<;>exact⟨rfl,rfl⟩
  ·rw[if_neg h0];cases base<;>simp[Builtin.append_,run_underlying ht,run_underlying hu,sizeOf,typeInfo,zeroValue,hi,hz,hroom',h48,h49,h63',hneg,hw,hmax,Question.forced,newRow,ha,hn0,loadCellsFrom,h0,Builtin.firstCells,loadCells]<;>exact⟨rfl,rfl⟩
theorem Uc(base:Option Addr)(n:Nat)(h1:1<=n)(hn:n<=1073741824)(w:World):Calls prog 151 #[.slice base 0 0,.int .i64 n] w fun e w'=>
 ∃cap row,n<=cap/\row.size=cap/\e=.returned (.slice (some ⟨w.heap.size,0,none⟩) 0 cap)/\w'={w.drew with heap:=w.heap.push (.cells row 9)}:=by
 obtain⟨cap,row,hc,hr,hm⟩:=Lx (P:=prog) (w:=w) (t:=39) (u:=3) (ty:=39) (e:=9) (base:=base) (n:=n) underlying39 underlying3 rfl rfl h1 hn (by decide +kernel) rfl
 have h0:¬((n:Int)<0):=by omega
 have h2:(0:Int)<n:=by omega
 go_enter func151,ntmps151
 go_wp2_with (at_builtin;refine Lib.wpList_append_run _ rfl _ _ _ _ rfl _ _ rfl rfl _ _ hm ?_)
 all_goals go_ret
 exact⟨cap,hc,row,hr.trans (Nat.mul_one _),rfl,rfl⟩
theorem QI(base:Option Addr)(w:World):Calls prog 151 #[.slice base 0 0,.int .i64 0] w fun e w'=>e=.returned (.slice base 0 0)/\w'=w:=by
 go_enter func151,ntmps151
 go_wp2
 all_goals go_ret
 exact⟨rfl,rfl⟩
theorem Xa(n:Nat)(hn:n<=1073741824)(bT:List Ab.Obj)(Ω:Store):bK prog 151 [.c (.bF []),.c (.d (.i .i64 n))] (bT::Ω)
 (fun r S'=>r=.c (.bM (0,bT.length) [])/\S'=(bT++[.tok 1 []])::Ω):=by
 refine⟨⟨_,func151,by kernel_rfl,by kernel_rfl⟩,fun w σ β vs hS hv=> ?_⟩;obtain⟨hl,h⟩:=hv;obtain⟨v0,e0,⟨h0,a,m,h00⟩,_⟩:=h 0 _ rfl;obtain⟨v1,e1,h1,_⟩:=h 1 _ rfl
 have h1':v1=.int .i64 n:=by cases h1;rfl
 subst h1'
 have hm:m=0:=by rw[h00] at h0;cases h0<;>rfl
 subst hm;subst h00
 have hvs:vs=[.slice a 0 0,.int .i64 n]:=by
  match vs,hl,e0,e1 with
  |[x,y],_,e0,e1=>simp at e0 e1;rw[e0,e1]
 subst hvs
 cases β with
 |nil=>have:=hS.shape.1;simp at this
 |cons bo bΩ=>
 have hlen:bo.length=bT.length:=by
  obtain⟨gr,g1,g2⟩:=hS.shape.2 0 bT rfl;simp at g1;rw[g1];exact g2
 by_cases hz:n=0
 ·subst hz;refine(QI a w).mono fun e w' ⟨he,hw⟩=> ?_;subst hw;obtain⟨hS',hk,hst⟩:=hS.push (o:=.tok 1 []) (h:=.slice a 0 0) (Grow.refl hS.live) hlen ⟨h0,by simp,a,0,rfl,by simp,.inl rfl⟩ (fun b hb=>by cases a<;>simp[owns,blk] at hb);refine⟨_,.c (.bM (0,bT.length) []),_,_,_,he,hS',hk,hst,⟨⟨h0,.tok 1 [],?_,fun aM es e=> ?_⟩,rfl⟩,rfl,rfl⟩
  ·rw[bL]
  ·obtain⟨_,rfl⟩:=jP (lab:=none) e;exact⟨aw _,fun _=>by rw[<-hlen,bL]⟩
 ·refine(Uc a n (by omega) hn w).mono fun e w' ⟨cap,row,hc,hr,he,hw⟩=> ?_;subst hw;have hσ:σ w.heap.size=0:=(hS.live w.heap.size).resolve_left (by omega)
  have hg:Grow w σ {w.drew with heap:=w.heap.push (.cells row 9)} σ:=by
   refine⟨by simp,rfl,rfl,fun b hb=>⟨?_,rfl⟩,fun b=> ?_⟩
   ·simp only[cC];rw[if_neg (by omega)]
   ·rcases hS.live b with hb|hb
    ·left;simp;omega
    ·exact .inr hb
  obtain⟨hS',hk,hst⟩:=hS.push (o:=.tok 1 []) (h:=.slice (some ⟨w.heap.size,0,none⟩) 0 cap) hg hlen ⟨.nil _ _,by simp,_,cap,rfl,by simp,.inr ⟨w.heap.size,0,row,9,rfl,by simp,by simp[hσ],by omega⟩⟩ (fun b hb=>by
   simp only[owns,blk] at hb;split at hb
   ·cases hb
   ·cases hb;exact aw _)
  refine⟨_,.c (.bM (0,bT.length) []),_,_,_,he,hS',hk,hst,⟨⟨.nil _ _,.tok 1 [],?_,fun aM es e=> ?_⟩,rfl⟩,rfl,rfl⟩
  ·rw[bL]
  ·obtain⟨_,rfl⟩:=jP (lab:=none) e;exact⟨aw _,fun _=>by rw[<-hlen,bL]⟩
theorem wY{xs:List (List UInt8)}:∀y∈xs.map encS,y.length=1:=fun y hy=>by
 obtain⟨z,_,rfl⟩:=cp.1 hy;rfl
theorem LA{α:Type}(xss:List (List α)){i:Nat}(hi:i<xss.length):(xss.take (i+1)).flatten.length=(xss.take i).flatten.length+xss[i].length:=by
 rw[cE hi,cF,ab];simp only[ci,List.flatten_nil,cJ]
theorem BX{α:Type}(xss:List (List α))(i:Nat):(xss.take i).flatten.length<=xss.flatten.length:=by
 conv=>rhs;rw[<-db i xss]
 rw[cF,ab];omega
theorem QJ(xss:List (List (List UInt8)))(hl:xss.length<=1073741824)(hf:xss.flatten.length<=1073741824):aT prog 136 [.c (.d (.sl (xss.map fun a=>[.sl (a.map encS)])))] (.c (.d (.sl (xss.flatten.map encS)))):=fun S=>by
 refine zcx [.tmp 2] func136 ntmps136 ?_;simp -implicitDefEqProofs (disch:=omega) only[go_sem]
 refine bn (ι:=Nat) zmx rfl [0,3,9,10,11] (fun i=>[.c (.d (.sl (xss.map fun a=>[.sl (a.map encS)]))),.c (.d (.i .i64 (xss.take i).flatten.length)),.c (.d (.sl (xss.map fun a=>[.sl (a.map encS)]))),.c (.d (.i .i64 xss.length)),.c (.d (.i .i64 i))]) (fun _=>[]::S)
  (fun i=>i<=xss.length) (fun i=>xss.length-i) 0 rfl rfl (ao _) ?_
 rintro i p1;have hfi:=BX xss i;by_cases hi:i<xss.length
 ·have hs:=LA xss hi;have aeO:=BX xss (i+1);simp -implicitDefEqProofs (disch:=omega) only[go_sem]
  with_reducible refine aj (fun hb=> ?_) (fun hb=> ?_)<;>have h:=hb<;>(try simp only[wf_preprocess] at h)<;>simp -implicitDefEqProofs (disch:=omega) only[go_sem,hb]<;>(repeat(with_reducible refine And.intro ?_ ?_;focus first|omega|rfl|assumption|exact⟨_,rfl,rfl⟩|(simp;omega)|(simp;done)))
  ·(repeat(with_reducible refine And.intro ?_ ?_;focus first|omega|rfl|assumption|exact⟨_,rfl,rfl⟩|(simp;omega)|(simp;done)))
   with_reducible refine aj (fun hb=> ?_) (fun hb=> ?_)<;>have h:=hb<;>(try simp only[wf_preprocess] at h)<;>simp -implicitDefEqProofs (disch:=omega) only[go_sem,hb]<;>(repeat(with_reducible refine And.intro ?_ ?_;focus first|omega|rfl|assumption|exact⟨_,rfl,rfl⟩|(simp;omega)|(simp;done)))
   ·omega
   ·refine bU (i+1) (by omega) ?_ rfl (by omega);rw[hs];rfl
  ·omega
 have hi:i=xss.length:=by omega
 subst hi;simp -implicitDefEqProofs (disch:=omega) only[go_sem]
 with_reducible refine aj (fun hb=> ?_) (fun hb=> ?_)<;>have h:=hb<;>(try simp only[wf_preprocess] at h)<;>simp -implicitDefEqProofs (disch:=omega) only[go_sem,hb]<;>(repeat(with_reducible refine And.intro ?_ ?_;focus first|omega|rfl|assumption|exact⟨_,rfl,rfl⟩|(simp;omega)|(simp;done)))
 ·omega
 rw[List.take_length];clear hfi;refine bq rfl (Xa xss.flatten.length hf [] S) ?_;simp -implicitDefEqProofs (disch:=omega) only[go_sem]
 refine bn (ι:=Nat) zmx rfl [6,25,26,27] (fun i=>[.c (.bM (0,0) ((xss.take i).flatten.map encS)),.c (.d (.sl (xss.map fun a=>[.sl (a.map encS)]))),.c (.d (.i .i64 xss.length)),.c (.d (.i .i64 i))]) (fun i=>[.tok 1 ((xss.take i).flatten.map encS)]::S)
  (fun i=>i<=xss.length) (fun i=>xss.length-i) 0 rfl rfl (ao _) ?_
 rintro i p1;have hfi:=BX xss i;by_cases hi:i<xss.length
 ·have hs:=LA xss hi;have aeO:=BX xss (i+1)
  have e:(xss.take (i+1)).flatten.map encS=(xss.take i).flatten.map encS++xss[i].map encS:=by
   rw[cE hi,cF,bc];simp only[ci,List.flatten_nil,cJ]
  simp -implicitDefEqProofs (disch:=omega) only[go_sem]
  with_reducible refine aj (fun hb=> ?_) (fun hb=> ?_)<;>have h:=hb<;>(try simp only[wf_preprocess] at h)<;>simp -implicitDefEqProofs (disch:=omega) only[go_sem,hb]<;>(repeat(with_reducible refine And.intro ?_ ?_;focus first|omega|rfl|assumption|exact⟨_,rfl,rfl⟩|(simp;omega)|(simp;done)))
  ·(repeat(with_reducible refine And.intro ?_ ?_;focus first|omega|rfl|assumption|exact⟨_,rfl,rfl⟩|(simp;omega)|(simp;done)))
   refine⟨wY,⟨_,rfl,rfl⟩,by omega,?_⟩;exact bU (i+1) (by omega) (by rw[e];rfl) (by rw[e]) (by omega)
  ·omega
 ·have hi:i=xss.length:=by omega
  subst hi;simp -implicitDefEqProofs (disch:=omega) only[go_sem]
  with_reducible refine aj (fun hb=> ?_) (fun hb=> ?_)<;>have h:=hb<;>(try simp only[wf_preprocess] at h)<;>simp -implicitDefEqProofs (disch:=omega) only[go_sem,hb]<;>(repeat(with_reducible refine And.intro ?_ ?_;focus first|omega|rfl|assumption|exact⟨_,rfl,rfl⟩|(simp;omega)|(simp;done)))
  ·omega
  rw[List.take_length]
theorem QK(c:Nat)(w:World):Calls prog 135 #[.slice none 0 c] w fun e w'=>e=.returned (.slice none 0 0)/\w'=w:=by
 have hb:(binOp .eql 39 (.slice none 0 c) (.slice none 0 0)).run prog w=.ok (.bool true) w:=by
  simp[binOp,run_equal_slice_nil w _ _ _ _ _ underlying39]
 go_enter func135,ntmps135
 go_wp2
 all_goals go_ret
 exact⟨rfl,rfl⟩
theorem QL(w w':World)(a:Addr)(n c:Nat)(r:Value)(hm:(Builtin.append_ #[39,39] 39 #[.slice (some ⟨w.heap.size,0,none⟩) 0 0,.slice (some a) n c]).run prog (w.alloc (.cells #[] 9))=.ok r w'):
 Calls prog 135 #[.slice (some a) n c] w fun e w''=>e=.returned r/\w''=w':=by
 have hb:(binOp .eql 39 (.slice (some a) n c) (.slice none 0 0)).run prog w=.ok (.bool false) w:=by
  simp[binOp,run_equal_slice_nil w _ _ _ _ _ underlying39]
 go_enter func135,ntmps135
 go_wp2_with (at_builtin;refine Lib.wpList_append_run _ rfl _ _ _ _ rfl _ _ rfl rfl _ _ hm ?_)
 all_goals go_ret
 exact⟨rfl,rfl⟩
theorem Ud(xs:List (List UInt8))(hx:xs.length<=1073741824)(bT:List Ab.Obj)(Ω:Store):bK prog 135 [.c (.d (.sl (xs.map encS)))] (bT::Ω)
 (fun r S'=>r=.c (.bM (0,bT.length) (xs.map encS))/\S'=(bT++[.tok 1 (xs.map encS)])::Ω):=by
 have ac4:(xs.map encS).length<=1073741824:=by simpa using hx
 have h1:=wY (xs:=xs)
 generalize xs.map encS=es at *
 refine⟨⟨_,func135,by kernel_rfl,by kernel_rfl⟩,fun w σ β vs hS hv=> ?_⟩;obtain⟨hl,h⟩:=hv;obtain⟨v,e0,hd,_⟩:=h 0 _ rfl;have hd:dw w σ (.sl es) v:=hd
 have hvs:vs=[v]:=by
  match vs,hl,e0 with
  |[x],_,e0=>simp at e0;rw[e0]
 subst hvs
 cases β with
 |nil=>have:=hS.shape.1;simp at this
 |cons bo bΩ=>
 have hlen:bo.length=bT.length:=by
  obtain⟨gr,g1,g2⟩:=hS.shape.2 0 bT rfl;simp at g1;rw[g1];exact g2
 have hv:∃a c,v=.slice a es.length c/\(a=none->es=[]):=by
  cases hd with
  |nil a cap=>exact⟨a,cap,rfl,fun _=>rfl⟩
  |sl b off cap aM es vals c t fz=>exact⟨_,_,rfl,fun h=>by cases h⟩
 obtain⟨a,c,rfl,ha⟩:=hv
 cases a with
 |none=>
  have:=ha rfl;subst this;refine(QK c w).mono fun e w' ⟨he,hw⟩=> ?_;subst hw;obtain⟨hS',hk,hst⟩:=hS.push (o:=.tok 1 []) (h:=.slice none 0 0) (Grow.refl hS.live) hlen ⟨.nil _ _,by simp,none,0,rfl,by simp,.inl rfl⟩ (fun b hb=>by simp[owns,blk] at hb);refine⟨_,.c (.bM (0,bT.length) []),_,_,_,he,hS',hk,hst,⟨⟨.nil _ _,.tok 1 [],?_,fun aM es e=> ?_⟩,rfl⟩,rfl,rfl⟩
  ·rw[bL]
  ·obtain⟨_,rfl⟩:=jP (lab:=none) e;exact⟨aw _,fun _=>by rw[<-hlen,bL]⟩
 |some a=>
  have hσ:σ w.heap.size=0:=(hS.live w.heap.size).resolve_left (by omega)
  have hg:Grow w σ (w.alloc (.cells #[] 9)) σ:=by
   have hh:(w.alloc (.cells #[] 9)).heap=w.heap.push (.cells #[] 9):=rfl;refine⟨by rw[hh];simp,rfl,rfl,fun b hb=>⟨?_,rfl⟩,fun b=> ?_⟩
   ·rw[hh,cC];rw[if_neg (by omega)]
   ·rcases hS.live b with hb|hb
    ·left;rw[hh];simp;omega
    ·exact .inr hb
  have qx:eT (w.alloc (.cells #[] 9)) σ [] [] (.tok 1 []) (.slice (some ⟨w.heap.size,0,none⟩) 0 0):=⟨.nil _ _,by simp,_,0,rfl,by simp,.inl rfl⟩;obtain⟨r,w',σ',hr,hro,hsz,hos,hout,hn,hli,rW,hbk,hzero,h1c⟩:=rX (lab:=none) (P:=prog) (w:=w.alloc (.cells #[] 9)) (σ:=σ) (S:=[]) (β:=[]) (t:=39) (u:=39) (ty:=39) (e:=9) (size:=1) (es:=[]) (ys:=es) hg.live underlying39 (.inl ⟨_,underlying39⟩) ⟨[.d (.s [])],by kernel_rfl,rfl⟩ rfl (by decide +kernel) qx (Am (dw.mono hg.near hd) h1) (by simpa using ac4);rw[ba] at hro hbk;refine(QL w w' a es.length c r hr).mono fun e w'' ⟨he,hw⟩=> ?_;subst hw;have hg2:Grow (w.alloc (.cells #[] 9)) σ w'' σ':=⟨hsz,hos,hout,fun b hb=>rW b hb (by simp[gH,owns,blk]),hli⟩;have hg3:=hg.trans hg2
  obtain⟨hS',hk,hst⟩:=hS.push (o:=.tok 1 es) (h:=r) hg3 hlen (hro _ _) (fun b hb=>by
   rcases hbk b hb with h|h
   ·simp[gH,owns,blk] at h
   ·exact cx hg.size h)
  refine⟨_,.c (.bM (0,bT.length) es),_,_,_,he,hS',hk,hst,⟨⟨(hro [] []).1,.tok 1 es,?_,fun aM es' e=> ?_⟩,h1c⟩,rfl,rfl⟩
  ·rw[bL]
  ·obtain⟨_,rfl⟩:=jP (lab:=none) e;exact⟨aw _,fun _=>by rw[<-hlen,bL]⟩
noncomputable def vD(k:Int)(n:List UInt8)(bound out:List (List UInt8)):List (List UInt8):=if k=3/\n∉bound/\n∉out then out++[n] else out
mutual
noncomputable def ig:ak->List (List UInt8)->List (List UInt8)->List (List UInt8)
 | .mk k _ n _ _ a b,bound,out=>qd b bound (mZ a k n 0 bound (vD k n bound out))
noncomputable def mZ:List ak->Int->List UInt8->Nat->List (List UInt8)->List (List UInt8)->List (List UInt8)
 |[],_,_,_,_,out=>out
 |x::xs,k,n,i,bound,out=>mZ xs k n (i+1) bound (ig x (if k=8/\i=1 then bound++[n] else bound) out)
noncomputable def qd:List aR->List (List UInt8)->List (List UInt8)->List (List UInt8)
 |[],_,out=>out
 |x::xs,bound,out=>qd xs bound (zB x bound out)
noncomputable def zB:aR->List (List UInt8)->List (List UInt8)->List (List UInt8)
 | .mk _ v b,bound,out=>ig b (bound++v) out
end
theorem LB(x:ak)(bound out:List (List UInt8)):ig x bound out=qd x.aX bound (mZ x.fArgs x.aW x.fName 0 bound (vD x.aW x.fName bound out)):=by cases x;rw[ig];rfl
theorem LC(x:aR)(bound out:List (List UInt8)):zB x bound out=ig x.fBody (bound++x.aO) out:=by cases x;rw[zB];rfl
theorem FJ{xs:List ak}{k:Int}{n:List UInt8}{i:Nat}{bound out:List (List UInt8)}(hi:i<xs.length):mZ (xs.drop i) k n i bound out=mZ (xs.drop (i+1)) k n (i+1) bound (ig xs[i] (if k=8/\i=1 then bound++[n] else bound) out):=by
 rw[bh hi,mZ]
theorem FK{xs:List aR}{i:Nat}{bound out:List (List UInt8)}(hi:i<xs.length):qd (xs.drop i) bound out=qd (xs.drop (i+1)) bound (zB xs[i] bound out):=by
 rw[bh hi,qd]
theorem DU(k:Int)(n:List UInt8)(bound out:List (List UInt8)):(vD k n bound out).length<=out.length+1:=by
 unfold vD;split<;>simp
mutual
theorem pK:∀(x:ak)(bound out:List (List UInt8)),(ig x bound out).length<=out.length+x.cnt
 | .mk k t n m ty a b,bound,out=>by
   have h1:=DU k n bound out;have h2:=Iz a k n 0 bound (vD k n bound out);have h3:=IB b bound (mZ a k n 0 bound (vD k n bound out));rw[ig,ak.cnt];omega
theorem Iz:∀(xs:List ak)(k:Int)(n:List UInt8)(i:Nat)(bound out:List (List UInt8)),(mZ xs k n i bound out).length<=out.length+ak.dG xs
 |[],k,n,i,bound,out=>by rw[mZ,ak.dG];omega
 |x::xs,k,n,i,bound,out=>by
  have h1:=pK x (if k=8/\i=1 then bound++[n] else bound) out;have h2:=Iz xs k n (i+1) bound (ig x (if k=8/\i=1 then bound++[n] else bound) out);rw[mZ,ak.dG];omega
theorem IB:∀(xs:List aR)(bound out:List (List UInt8)),(qd xs bound out).length<=out.length+aR.dG xs
 |[],bound,out=>by rw[qd,aR.dG];omega
 |x::xs,bound,out=>by
  have h1:=Ue x bound out;have h2:=IB xs bound (zB x bound out);rw[qd,aR.dG];omega
theorem Ue:∀(x:aR)(bound out:List (List UInt8)),(zB x bound out).length<=out.length+x.cnt
 | .mk c v b,bound,out=>by
   have h1:=pK b (bound++v) out;rw[zB,aR.cnt];omega
end
theorem ak.sH{x:ak}{i:Nat}(hi:i<x.fArgs.length):x.fArgs[i].sz+x.fArgs.length<=x.sz:=by
 have hx:x.fArgs[i].sz<=aH (x.fArgs.map ak.enc):=dK (bd (ac hi));have:=ak.wW x;omega
theorem ak.Uf{x:ak}{i:Nat}(hi:i<x.aX.length):x.aX[i].sz+x.aX.length<=x.sz:=by
 have hx:x.aX[i].sz<=aH (x.aX.map aR.enc):=dK (bd (ac hi));have:=ak.wW x;omega
theorem aR.Ol(x:aR):x.aO.length+x.fBody.sz<=x.sz:=by
 simp only[aR.sz,aR.aB,ak.sz,aY,bG,D.sz,al];omega
theorem BZ(xs:List (List UInt8))(s:List UInt8):xs.map encS++[[D.s s]]=(xs++[s]).map encS:=by simp[encS]
theorem Bg:∀N:Nat,∀x:ak,SizeOf.sizeOf x<N->x.sz<=4194304->∀(bound out:List (List UInt8))(l j:Nat)(S:Store),aN S (l,j)=some (.tok 1 (out.map encS))->out.length+x.cnt<=1073741824->bound.length+x.sz<=1073741824->
 bK prog 114 [.c (.bM (l,j) (out.map encS)),x.v,.c (.d (.sl (bound.map encS)))] S (fun r S'=>r=.c (.bM (l,j) ((ig x bound out).map encS))/\S'=aP S (l,j) (.tok 1 ((ig x bound out).map encS)))
 |0=>fun x h=>by omega
 |N+1=>by
  have ih:=Bg N;intro x hn hsz bound out l j S hk hc hbd;have hb0:=ak.wW x;have kH:=ak.gM x;have zw:=ak.qZ x;have hcn:=ak.kP x;have Fx:∀y:Ab.Obj,aN (aP S (l,j) y) (l,j)=some y:=fun y=>bP _ _ _ _ hk;have hS0:aP S (l,j) (.tok 1 (out.map encS))=S:=xL _ _ hk;have fin:=LB x bound out;have hal:=DU x.aW x.fName bound out;obtain⟨o1,ho1⟩:∃o1,vD x.aW x.fName bound out=o1:=⟨_,rfl⟩;rw[ho1] at fin hal;refine(show Hold ?T->_ from fun tail=> ?main) ?tp
  case' main=>
   refine zcx [.tmp 6] func114 ntmps114 ?_;simp -implicitDefEqProofs (disch:=omega) only[go_sem,hk]
   repeat' (first
    |(with_reducible refine aj (fun hb=> ?_) (fun hb=> ?_)<;>have h:=hb<;>(try simp only[wf_preprocess] at h)<;>simp -implicitDefEqProofs (disch:=omega) only[go_sem,hb,hk]<;>(repeat(with_reducible refine And.intro ?_ ?_;focus first|omega|rfl|assumption|exact⟨_,rfl,rfl⟩|(simp;omega)|(simp;done))))
    |(refine au (pF bound x.fName (by omega)) ?_;simp -implicitDefEqProofs (disch:=omega) only[go_sem,hk];(repeat(with_reducible refine And.intro ?_ ?_;focus first|omega|rfl|assumption|exact⟨_,rfl,rfl⟩|(simp;omega)|(simp;done))))
    |(refine au (pF out x.fName (by omega)) ?_;simp -implicitDefEqProofs (disch:=omega) only[go_sem,hk];(repeat(with_reducible refine And.intro ?_ ?_;focus first|omega|rfl|assumption|exact⟨_,rfl,rfl⟩|(simp;omega)|(simp;done)))))
   all_goals first
    |(have ha:vD x.aW x.fName bound out=out++[x.fName]:=if_pos ⟨by assumption,by assumption,by assumption⟩)
    |(have ha:vD x.aW x.fName bound out=out:=if_neg (fun y=>by have:=y.1;have:=y.2.1;have:=y.2.2;contradiction))
   all_goals
    refine uh (st':=[.box (x.enc.map .d)]::aP S (l,j) (.tok 1 (o1.map encS))) [0,2,4,34,35,36] [.c (.bM (1+l,j) (o1.map encS)),.c (.d (.sl (bound.map encS))),.c (.ptr (0,0) 0),.c (.d (.sl (x.fArgs.map ak.enc))),.c (.d (.i .i64 x.fArgs.length)),.c (.d (.i .i64 0))] ?_ ?_ ?_
    ·first|(rw[<-ho1,ha];rfl)|(rw[<-ho1,ha,<-BZ];rfl)
    ·first|(rw[<-ho1,ha,hS0];simp -implicitDefEqProofs (disch:=omega) only[go_sem];done)|(rw[<-ho1,ha,<-BZ];simp -implicitDefEqProofs (disch:=omega) only[go_sem];done)
    ·exact tail.out
  refine⟨?_⟩;clear ho1
  refine bn (ι:=Nat×List (List UInt8)) zmx rfl [0,2,4,34,35,36] (fun y=>[.c (.bM (1+l,j) (y.2.map encS)),.c (.d (.sl (bound.map encS))),.c (.ptr (0,0) 0),.c (.d (.sl (x.fArgs.map ak.enc))),.c (.d (.i .i64 x.fArgs.length)),.c (.d (.i .i64 y.1))]) (fun y=>[.box (x.enc.map .d)]::aP S (l,j) (.tok 1 (y.2.map encS)))
   (fun y=>y.1<=x.fArgs.length/\y.2.length+ak.dG (x.fArgs.drop y.1)+aR.dG x.aX<=1073741824/\mZ (x.fArgs.drop y.1) x.aW x.fName y.1 bound y.2=mZ x.fArgs x.aW x.fName 0 bound o1) (fun y=>x.fArgs.length-y.1) (0,o1) rfl rfl ⟨ao _,by simp only[cQ];omega,rfl⟩ ?_
  rintro⟨i,o⟩ ⟨p1,p2,p3⟩
  have refs:∀{a b},nk 1 (jl [0,2,4,34,35,36] [.c (.bM (1+l,j) a),.c (.d (.sl (bound.map encS))),.c (.ptr (0,0) 0),.c (.d (.sl (x.fArgs.map ak.enc))),.c (.d (.i .i64 x.fArgs.length)),.c (.d (.i .i64 b))])=true:=fun {a b}=>by simp[nk,jl,V.refs,C.refs,mQ];omega
  simp only at p1 p2 p3;simp -implicitDefEqProofs (disch:=omega) only[go_sem]
  with_reducible refine aj (fun hb=> ?_) (fun hb=> ?_)<;>have h:=hb<;>(try simp only[wf_preprocess] at h)<;>simp -implicitDefEqProofs (disch:=omega) only[go_sem,hb]<;>(repeat(with_reducible refine And.intro ?_ ?_;focus first|omega|rfl|assumption|exact⟨_,rfl,rfl⟩|(simp;omega)|(simp;done)))
  ·have hi:i<x.fArgs.length:=by omega
   have hs:=be (ac hi);have hz:=ak.sH hi;rw[FJ hi] at p3;rw[ak.jh hi] at p2;have hlo:=pK x.fArgs[i] (if x.aW=8/\i=1 then bound++[x.fName] else bound) o
   (repeat(with_reducible refine And.intro ?_ ?_;focus first|omega|rfl|assumption|exact⟨_,rfl,rfl⟩|(simp;omega)|(simp;done)))
   have two:x.fArgs[i].sz+(bound.length+1)<=1073741824:=by omega
   repeat' (first|with_reducible refine aj (fun hb=> ?_) (fun hb=> ?_)<;>have h:=hb<;>(try simp only[wf_preprocess] at h)<;>simp -implicitDefEqProofs (disch:=omega) only[go_sem,hb]<;>(repeat(with_reducible refine And.intro ?_ ?_;focus first|omega|rfl|assumption|exact⟨_,rfl,rfl⟩|(simp;omega)|(simp;done))))
   ·
    have e1:x.aW=8/\i=1:=⟨by omega,by omega⟩;rw[if_pos e1] at p3 hlo;refine aaT rfl DS.push (Ud bound (by omega) _ _) ?_;simp -implicitDefEqProofs (disch:=omega) only[go_sem]
    (repeat(with_reducible refine And.intro ?_ ?_;focus first|omega|rfl|assumption|exact⟨_,rfl,rfl⟩|(simp;omega)|(simp;done)))
    rw[BZ];refine dJ [true,true,false] rfl (ih x.fArgs[i] (by omega) (by omega) (bound++[x.fName]) o (1+l) j _ (by simp -implicitDefEqProofs (disch:=omega) only[go_sem];exact Fx _) (by omega) (by simp only[ab,aa,ae];omega)) ?_;simp -implicitDefEqProofs (disch:=omega) only[go_sem,bW];exact dL 1 (by decide) (i+1,ig x.fArgs[i] (bound++[x.fName]) o) (by simp only;omega) rfl rfl refs rfl ⟨by simp only;omega,by simp only;omega,p3⟩
   all_goals
    have e1:¬(x.aW=8/\i=1):=fun h=>by omega
    rw[if_neg e1] at p3 hlo;refine bq rfl (ih x.fArgs[i] (by omega) (by omega) bound o (1+l) j _ (by simp -implicitDefEqProofs (disch:=omega) only[go_sem];exact Fx _) (by omega) (by omega)) ?_;simp -implicitDefEqProofs (disch:=omega) only[go_sem,bW];exact dL 1 (by decide) (i+1,ig x.fArgs[i] bound o) (by simp only;omega) rfl rfl refs rfl ⟨by simp only;omega,by simp only;omega,p3⟩
  have hi:i=x.fArgs.length:=by omega
  rw[hi,cj] at p2 p3;rw[ak.dG] at p2;rw[mZ] at p3;rw[<-p3] at fin;clear p3 refs
  refine bn (ι:=Nat×List (List UInt8)) zmx rfl [0,2,63,64,65] (fun y=>[.c (.bM (1+l,j) (y.2.map encS)),.c (.d (.sl (bound.map encS))),.c (.d (.sl (x.aX.map aR.enc))),.c (.d (.i .i64 x.aX.length)),.c (.d (.i .i64 y.1))]) (fun y=>[.box (x.enc.map .d)]::aP S (l,j) (.tok 1 (y.2.map encS)))
   (fun y=>y.1<=x.aX.length/\y.2.length+aR.dG (x.aX.drop y.1)<=1073741824/\qd (x.aX.drop y.1) bound y.2=ig x bound out) (fun y=>x.aX.length-y.1) (0,o) rfl ?_ ⟨ao _,by simp only[cQ];omega,fin.symm⟩ ?_
  ·simp -implicitDefEqProofs (disch:=omega) only[go_sem]
  clear p1 p2 fin hal;rintro⟨i,o⟩ ⟨p1,p2,p3⟩
  have refs:∀a b,nk 1 (jl [0,2,63,64,65] [.c (.bM (1+l,j) a),.c (.d (.sl (bound.map encS))),.c (.d (.sl (x.aX.map aR.enc))),.c (.d (.i .i64 x.aX.length)),.c (.d (.i .i64 b))])=true:=fun a b=>by simp[nk,jl,V.refs,C.refs,mQ];omega
  simp only at p1 p2 p3;simp -implicitDefEqProofs (disch:=omega) only[go_sem]
  with_reducible refine aj (fun hb=> ?_) (fun hb=> ?_)<;>have h:=hb<;>(try simp only[wf_preprocess] at h)<;>simp -implicitDefEqProofs (disch:=omega) only[go_sem,hb]<;>(repeat(with_reducible refine And.intro ?_ ?_;focus first|omega|rfl|assumption|exact⟨_,rfl,rfl⟩|(simp;omega)|(simp;done)))
  ·have hi:i<x.aX.length:=by omega
   have hs:=be (ac hi);have hs':=aR.pX x.aX[i];have hz:=ak.Uf hi;have hz':=aR.Ol x.aX[i];rw[FK hi,LC] at p3;rw[aR.jh hi] at p2;have hlo:=pK x.aX[i].fBody (bound++x.aX[i].aO) o;have hcc:=QJ [bound,x.aX[i].aO] (by simp) (by simp only[ci,List.flatten_nil,cJ,ab];omega);simp only[af,ap,ci,List.flatten_nil,cJ] at hcc
   (repeat(with_reducible refine And.intro ?_ ?_;focus first|omega|rfl|assumption|exact⟨_,rfl,rfl⟩|(simp;omega)|(simp;done)))
   refine au hcc ?_;simp -implicitDefEqProofs (disch:=omega) only[go_sem];refine bq rfl (ih x.aX[i].fBody (by omega) (by omega) (bound++x.aX[i].aO) o (1+l) j _ (by simp -implicitDefEqProofs (disch:=omega) only[go_sem];exact Fx _) (by omega) (by simp only[ab];omega)) ?_;simp -implicitDefEqProofs (disch:=omega) only[go_sem,bW];exact dL 1 (by decide) (i+1,ig x.aX[i].fBody (bound++x.aX[i].aO) o) (by simp only;omega) rfl rfl (refs _ _) rfl ⟨by simp only;omega,by simp only;omega,p3⟩
  ·have hi:i=x.aX.length:=by omega
   rw[hi,cj,qd] at p3;rw[<-p3];exact⟨rfl,rfl⟩
theorem FL(x:ak)(hsz:x.sz<=4194304):aT prog 95 [x.v] (.c (.d (.sl ((ig x [] []).map encS)))):=fun S=>by
 have hc:=ak.iP x
 have h0:∀S,bK prog 114 [.c (.bF []),x.v,.c (.d (.sl []))] S (fun r S'=>r=.c (.d (.sl ((ig x [] []).map encS)))/\S'=S):=fun S=>by
  refine bK.WL 0 (es:=[]) (aM:=1) rfl (by simp) (Bg _ x (cg _) hsz [] [] 0 0 ([.tok 1 []]::S) rfl (by simp;omega) (by simp;omega)) ?_;rintro r fr S' ⟨rfl,h2⟩;injection h2 with h2 h3;exact⟨_,rfl,rfl,h3⟩
 refine zcx [.tmp 2] func95 ntmps95 ?_;simp -implicitDefEqProofs (disch:=omega) only[go_sem]
 (repeat(with_reducible refine And.intro ?_ ?_;focus first|omega|rfl|assumption|exact⟨_,rfl,rfl⟩|(simp;omega)|(simp;done)))
 refine dJ [true,true,false] rfl (h0 _) ?_;simp -implicitDefEqProofs (disch:=omega) only[go_sem]
theorem Bh:∀N:Nat,∀x:ak,SizeOf.sizeOf x<N->x.sz<=4194304->∀(bound out:List (List UInt8))(l j:Nat)(S:Store),aN S (l,j)=some (.tok 1 (out.map encS))->out.length+x.cnt<=1073741824->bound.length+x.sz<=1073741824->
 bK prog 142 [x.v,.c (.d (.sl (bound.map encS))),.c (.bM (l,j) (out.map encS))] S (fun r S'=>r=.c (.bM (l,j) ((ig x bound out).map encS))/\S'=aP S (l,j) (.tok 1 ((ig x bound out).map encS)))
 |0=>fun x h=>by omega
 |N+1=>by
  have ih:=Bh N;intro x hn hsz bound out l j S hk hc hbd;have hb0:=ak.wW x;have kH:=ak.gM x;have zw:=ak.qZ x;have hcn:=ak.kP x;have Fx:∀y:Ab.Obj,aN (aP S (l,j) y) (l,j)=some y:=fun y=>bP _ _ _ _ hk;have hS0:aP S (l,j) (.tok 1 (out.map encS))=S:=xL _ _ hk;have fin:=LB x bound out;have hal:=DU x.aW x.fName bound out;obtain⟨o1,ho1⟩:∃o1,vD x.aW x.fName bound out=o1:=⟨_,rfl⟩;rw[ho1] at fin hal;refine(show Hold ?T->_ from fun tail=> ?main) ?tp
  case' main=>
   refine zcx [.tmp 6] func142 ntmps142 ?_;simp -implicitDefEqProofs (disch:=omega) only[go_sem,hk]
   repeat' (first
    |(with_reducible refine aj (fun hb=> ?_) (fun hb=> ?_)<;>have h:=hb<;>(try simp only[wf_preprocess] at h)<;>simp -implicitDefEqProofs (disch:=omega) only[go_sem,hb,hk]<;>(repeat(with_reducible refine And.intro ?_ ?_;focus first|omega|rfl|assumption|exact⟨_,rfl,rfl⟩|(simp;omega)|(simp;done))))
    |(refine au (nO bound x.fName (by omega)) ?_;simp -implicitDefEqProofs (disch:=omega) only[go_sem,hk];(repeat(with_reducible refine And.intro ?_ ?_;focus first|omega|rfl|assumption|exact⟨_,rfl,rfl⟩|(simp;omega)|(simp;done))))
    |(refine au (nO out x.fName (by omega)) ?_;simp -implicitDefEqProofs (disch:=omega) only[go_sem,hk];(repeat(with_reducible refine And.intro ?_ ?_;focus first|omega|rfl|assumption|exact⟨_,rfl,rfl⟩|(simp;omega)|(simp;done)))))
   all_goals first
    |(have ha:vD x.aW x.fName bound out=out++[x.fName]:=if_pos ⟨by assumption,by assumption,by assumption⟩)
    |(have ha:vD x.aW x.fName bound out=out:=if_neg (fun y=>by have:=y.1;have:=y.2.1;have:=y.2.2;contradiction))
   all_goals
    refine uh (st':=[.box (x.enc.map .d)]::aP S (l,j) (.tok 1 (o1.map encS))) [1,2,3,7] [.c (.d (.sl (bound.map encS))),.c (.bM (1+l,j) (o1.map encS)),.c (.ptr (0,0) 0),.c (.d (.i .i64 0))] ?_ ?_ ?_
    ·first|(rw[<-ho1,ha];rfl)|(rw[<-ho1,ha,<-BZ];rfl)
    ·first|(rw[<-ho1,ha,hS0];simp -implicitDefEqProofs (disch:=omega) only[go_sem];done)|(rw[<-ho1,ha,<-BZ];simp -implicitDefEqProofs (disch:=omega) only[go_sem];done)
    ·exact tail.out
  refine⟨?_⟩;clear ho1
  refine bn (ι:=Nat×List (List UInt8)) zmx rfl [1,2,3,7] (fun y=>[.c (.d (.sl (bound.map encS))),.c (.bM (1+l,j) (y.2.map encS)),.c (.ptr (0,0) 0),.c (.d (.i .i64 y.1))]) (fun y=>[.box (x.enc.map .d)]::aP S (l,j) (.tok 1 (y.2.map encS)))
   (fun y=>y.1<=x.fArgs.length/\y.2.length+ak.dG (x.fArgs.drop y.1)+aR.dG x.aX<=1073741824/\mZ (x.fArgs.drop y.1) x.aW x.fName y.1 bound y.2=mZ x.fArgs x.aW x.fName 0 bound o1) (fun y=>x.fArgs.length-y.1) (0,o1) rfl rfl ⟨ao _,by simp only[cQ];omega,rfl⟩ ?_
  rintro⟨i,o⟩ ⟨p1,p2,p3⟩
  have refs:∀{a b},nk 1 (jl [1,2,3,7] [.c (.d (.sl (bound.map encS))),.c (.bM (1+l,j) a),.c (.ptr (0,0) 0),.c (.d (.i .i64 b))])=true:=fun {a b}=>by simp[nk,jl,V.refs,C.refs,mQ];omega
  simp only at p1 p2 p3;simp -implicitDefEqProofs (disch:=omega) only[go_sem]
  with_reducible refine aj (fun hb=> ?_) (fun hb=> ?_)<;>have h:=hb<;>(try simp only[wf_preprocess] at h)<;>simp -implicitDefEqProofs (disch:=omega) only[go_sem,hb]<;>(repeat(with_reducible refine And.intro ?_ ?_;focus first|omega|rfl|assumption|exact⟨_,rfl,rfl⟩|(simp;omega)|(simp;done)))
  ·have hi:i<x.fArgs.length:=by omega
   have hs:=be (ac hi);have hz:=ak.sH hi;rw[FJ hi] at p3;rw[ak.jh hi] at p2;have hlo:=pK x.fArgs[i] (if x.aW=8/\i=1 then bound++[x.fName] else bound) o
   have two:x.fArgs[i].sz+(bound.length+1)<=1073741824:=by omega
   repeat' (first|with_reducible refine aj (fun hb=> ?_) (fun hb=> ?_)<;>have h:=hb<;>(try simp only[wf_preprocess] at h)<;>simp -implicitDefEqProofs (disch:=omega) only[go_sem,hb]<;>(repeat(with_reducible refine And.intro ?_ ?_;focus first|omega|rfl|assumption|exact⟨_,rfl,rfl⟩|(simp;omega)|(simp;done))))
   ·have e1:x.aW=8/\i=1:=⟨by omega,by omega⟩;rw[if_pos e1] at p3 hlo;refine⟨wY,⟨_,rfl,rfl⟩,fun y hy=>(by cases hy),by omega,?_⟩
    (repeat(with_reducible refine And.intro ?_ ?_;focus first|omega|rfl|assumption|exact⟨_,rfl,rfl⟩|(simp;omega)|(simp;done)))
    rw[BZ];refine dJ [true,false,true] rfl (ih x.fArgs[i] (by omega) (by omega) (bound++[x.fName]) o (1+l) j _ (by simp -implicitDefEqProofs (disch:=omega) only[go_sem];exact Fx _) (by omega) (by simp only[ab,aa,ae];omega)) ?_;simp -implicitDefEqProofs (disch:=omega) only[go_sem,bW];exact dL 1 (by decide) (i+1,ig x.fArgs[i] (bound++[x.fName]) o) (by simp only;omega) rfl rfl refs rfl ⟨by simp only;omega,by simp only;omega,p3⟩
   all_goals
    have e1:¬(x.aW=8/\i=1):=fun h=>by omega
    rw[if_neg e1] at p3 hlo
    (repeat(with_reducible refine And.intro ?_ ?_;focus first|omega|rfl|assumption|exact⟨_,rfl,rfl⟩|(simp;omega)|(simp;done)))
    refine bq rfl (ih x.fArgs[i] (by omega) (by omega) bound o (1+l) j _ (by simp -implicitDefEqProofs (disch:=omega) only[go_sem];exact Fx _) (by omega) (by omega)) ?_;simp -implicitDefEqProofs (disch:=omega) only[go_sem,bW];exact dL 1 (by decide) (i+1,ig x.fArgs[i] bound o) (by simp only;omega) rfl rfl refs rfl ⟨by simp only;omega,by simp only;omega,p3⟩
  have hi:i=x.fArgs.length:=by omega
  rw[hi,cj] at p2 p3;rw[ak.dG] at p2;rw[mZ] at p3;rw[<-p3] at fin;clear p3 refs
  refine bn (ι:=Nat×List (List UInt8)) zmx rfl [1,2,3,9] (fun y=>[.c (.d (.sl (bound.map encS))),.c (.bM (1+l,j) (y.2.map encS)),.c (.ptr (0,0) 0),.c (.d (.i .i64 y.1))]) (fun y=>[.box (x.enc.map .d)]::aP S (l,j) (.tok 1 (y.2.map encS)))
   (fun y=>y.1<=x.aX.length/\y.2.length+aR.dG (x.aX.drop y.1)<=1073741824/\qd (x.aX.drop y.1) bound y.2=ig x bound out) (fun y=>x.aX.length-y.1) (0,o) rfl ?_ ⟨ao _,by simp only[cQ];omega,fin.symm⟩ ?_
  ·simp -implicitDefEqProofs (disch:=omega) only[go_sem]
  clear p1 p2 fin hal;rintro⟨i,o⟩ ⟨p1,p2,p3⟩
  have refs:∀a b,nk 1 (jl [1,2,3,9] [.c (.d (.sl (bound.map encS))),.c (.bM (1+l,j) a),.c (.ptr (0,0) 0),.c (.d (.i .i64 b))])=true:=fun a b=>by simp[nk,jl,V.refs,C.refs,mQ];omega
  simp only at p1 p2 p3;simp -implicitDefEqProofs (disch:=omega) only[go_sem]
  with_reducible refine aj (fun hb=> ?_) (fun hb=> ?_)<;>have h:=hb<;>(try simp only[wf_preprocess] at h)<;>simp -implicitDefEqProofs (disch:=omega) only[go_sem,hb]<;>(repeat(with_reducible refine And.intro ?_ ?_;focus first|omega|rfl|assumption|exact⟨_,rfl,rfl⟩|(simp;omega)|(simp;done)))
  ·have hi:i<x.aX.length:=by omega
   have hs:=be (ac hi);have hs':=aR.pX x.aX[i];have hz:=ak.Uf hi;have hz':=aR.Ol x.aX[i];rw[FK hi,LC] at p3;rw[aR.jh hi] at p2;have hlo:=pK x.aX[i].fBody (bound++x.aX[i].aO) o;refine⟨wY,⟨_,rfl,rfl⟩,fun y hy=>(by cases hy),by omega,⟨by omega,hi⟩,wY,⟨_,rfl,rfl⟩,by omega,?_⟩;rw[<-bc];refine dJ [true,false,true] rfl (ih x.aX[i].fBody (by omega) (by omega) (bound++x.aX[i].aO) o (1+l) j _ (by simp -implicitDefEqProofs (disch:=omega) only[go_sem];exact Fx _) (by omega) (by simp only[ab];omega)) ?_;simp -implicitDefEqProofs (disch:=omega) only[go_sem,bW];exact dL 1 (by decide) (i+1,ig x.aX[i].fBody (bound++x.aX[i].aO) o) (by simp only;omega) rfl rfl (refs _ _) rfl ⟨by simp only;omega,by simp only;omega,p3⟩
  ·have hi:i=x.aX.length:=by omega
   rw[hi,cj,qd] at p3;rw[<-p3];exact⟨rfl,rfl⟩
theorem FM(x:ak)(hsz:x.sz<=4194304):aT prog 120 [x.v] (.c (.d (.sl ((ig x [] []).map encS)))):=fun S=>by
 have hc:=ak.iP x
 have h0:∀S,bK prog 142 [x.v,.c (.d (.sl [])),.c (.bF [])] S (fun r S'=>r=.c (.d (.sl ((ig x [] []).map encS)))/\S'=S):=fun S=>by
  refine bK.WL 2 (es:=[]) (aM:=1) rfl (by simp) (Bh _ x (cg _) hsz [] [] 0 0 ([.tok 1 []]::S) rfl (by simp;omega) (by simp;omega)) ?_;rintro r fr S' ⟨rfl,h2⟩;injection h2 with h2 h3;exact⟨_,rfl,rfl,h3⟩
 refine zcx [.tmp 2] func120 ntmps120 ?_;simp -implicitDefEqProofs (disch:=omega) only[go_sem]
 (repeat(with_reducible refine And.intro ?_ ?_;focus first|omega|rfl|assumption|exact⟨_,rfl,rfl⟩|(simp;omega)|(simp;done)))
 refine dJ [true,false,true] rfl (h0 _) ?_;simp -implicitDefEqProofs (disch:=omega) only[go_sem]
theorem ak.wZ{x:ak}(h:x.sz<=4194304):x.dP.length<=4194304/\x.fName.length<=4194304/\x.fType.sz<=4194304/\x.fArgs.length<=4194304/\x.aX.length<=4194304:=by
 simp only[ak.sz,ak.aB,aY,bG,D.sz,al,ah.cB] at h;omega
theorem ak.Yy{x:ak}{i:Nat}(hi:i<x.fArgs.length)(h:x.sz<=4194304):x.fArgs[i].sz<=4194304:=by
 have hx:x.fArgs[i].sz<=aH (x.fArgs.map ak.enc):=dK (bd (ac hi));simp only[ak.sz,ak.aB,aY,bG,D.sz,al,ah.cB] at h;omega
theorem ak.Yz{x:ak}{i:Nat}(hi:i<x.aX.length)(h:x.sz<=4194304):x.aX[i].sz<=4194304:=by
 have hx:x.aX[i].sz<=aH (x.aX.map aR.enc):=dK (bd (ac hi));simp only[ak.sz,ak.aB,aY,bG,D.sz,al,ah.cB] at h;omega
theorem aR.wZ{x:aR}(h:x.sz<=4194304):x.fO.length<=4194304/\x.aO.length<=4194304/\x.fBody.sz<=4194304:=by
 simp only[aR.sz,aR.aB,aY,bG,D.sz,al,ak.cB] at h;omega
theorem vM:∀n:Nat,∀x:ak,SizeOf.sizeOf x<n->∀y:ak,x.sz<=4194304->aT prog 105 [x.v,y.v] (.c (.d (.b (dec (x=y)))))
 |0=>fun x h=>by omega
 |n+1=>by
  have ih:=vM n;intro x hn y hsz S;have kH:=ak.gM x;have zw:=ak.qZ x;have hb0:=ak.wZ hsz
  have hargs:=Dy 105 x.fArgs y.fArgs (by omega) (fun u hu v=>by
   obtain⟨i,hi,e⟩:=bm hu;have:=be hu
   exact ih u (by omega) v (by rw[<-e];exact ak.Yy hi hsz))
  have ac5:=Fg 126 x.aX y.aX (by omega) (fun u hu v=>by
   obtain⟨i,hi,e⟩:=bm hu;have hs:=be hu
   have hz:u.sz<=4194304:=by rw[<-e];exact ak.Yz hi hsz
   have hz':=aR.wZ hz;have ac6:=aR.pX u;intro S;refine zcx [.tmp 4] func126 ntmps126 ?_;simp -implicitDefEqProofs (disch:=omega) only[go_sem]
   with_reducible refine aj (fun hb=> ?_) (fun hb=> ?_)<;>have h:=hb<;>(try simp only[wf_preprocess] at h)<;>simp -implicitDefEqProofs (disch:=omega) only[go_sem,hb]<;>(repeat(with_reducible refine And.intro ?_ ?_;focus first|omega|rfl|assumption|exact⟨_,rfl,rfl⟩|(simp;omega)|(simp;done)))
   ·have h1:=h;refine au (TS u.aO v.aO (by omega)) ?_;simp -implicitDefEqProofs (disch:=omega) only[go_sem]<;>(repeat(with_reducible refine And.intro ?_ ?_;focus first|omega|rfl|assumption|exact⟨_,rfl,rfl⟩|(simp;omega)|(simp;done)))
    with_reducible refine aj (fun hb=> ?_) (fun hb=> ?_)<;>have h:=hb<;>(try simp only[wf_preprocess] at h)<;>simp -implicitDefEqProofs (disch:=omega) only[go_sem,hb]<;>(repeat(with_reducible refine And.intro ?_ ?_;focus first|omega|rfl|assumption|exact⟨_,rfl,rfl⟩|(simp;omega)|(simp;done)))
    ·have h2:=h;refine au (ih u.fBody (by omega) v.fBody (by omega)) ?_;simp -implicitDefEqProofs (disch:=omega) only[go_sem]<;>(repeat(with_reducible refine And.intro ?_ ?_;focus first|omega|rfl|assumption|exact⟨_,rfl,rfl⟩|(simp;omega)|(simp;done)));exact ay (dY ⟨fun e=>aR.ext h1 h2 e,fun e=>by rw[e]⟩)
    ·exact ay (aI (fun e=>h (by rw[e]))).symm
   ·exact ay (aI (fun e=>h (by rw[e]))).symm)
  refine zcx [.tmp 4] func105 ntmps105 ?_;simp -implicitDefEqProofs (disch:=omega) only[go_sem]
  with_reducible refine aj (fun hb=> ?_) (fun hb=> ?_)<;>have h:=hb<;>(try simp only[wf_preprocess] at h)<;>simp -implicitDefEqProofs (disch:=omega) only[go_sem,hb]<;>(repeat(with_reducible refine And.intro ?_ ?_;focus first|omega|rfl|assumption|exact⟨_,rfl,rfl⟩|(simp;omega)|(simp;done)))
  ·have h1:=h
   with_reducible refine aj (fun hb=> ?_) (fun hb=> ?_)<;>have h:=hb<;>(try simp only[wf_preprocess] at h)<;>simp -implicitDefEqProofs (disch:=omega) only[go_sem,hb]<;>(repeat(with_reducible refine And.intro ?_ ?_;focus first|omega|rfl|assumption|exact⟨_,rfl,rfl⟩|(simp;omega)|(simp;done)))
   ·have h2:=h
    with_reducible refine aj (fun hb=> ?_) (fun hb=> ?_)<;>have h:=hb<;>(try simp only[wf_preprocess] at h)<;>simp -implicitDefEqProofs (disch:=omega) only[go_sem,hb]<;>(repeat(with_reducible refine And.intro ?_ ?_;focus first|omega|rfl|assumption|exact⟨_,rfl,rfl⟩|(simp;omega)|(simp;done)))
    ·have h3:=h
     with_reducible refine aj (fun hb=> ?_) (fun hb=> ?_)<;>have h:=hb<;>(try simp only[wf_preprocess] at h)<;>simp -implicitDefEqProofs (disch:=omega) only[go_sem,hb]<;>(repeat(with_reducible refine And.intro ?_ ?_;focus first|omega|rfl|assumption|exact⟨_,rfl,rfl⟩|(simp;omega)|(simp;done)))
     ·have h4:=h;refine au (DN x.fType y.fType (by omega)) ?_;simp -implicitDefEqProofs (disch:=omega) only[go_sem]<;>(repeat(with_reducible refine And.intro ?_ ?_;focus first|omega|rfl|assumption|exact⟨_,rfl,rfl⟩|(simp;omega)|(simp;done)))
      with_reducible refine aj (fun hb=> ?_) (fun hb=> ?_)<;>have h:=hb<;>(try simp only[wf_preprocess] at h)<;>simp -implicitDefEqProofs (disch:=omega) only[go_sem,hb]<;>(repeat(with_reducible refine And.intro ?_ ?_;focus first|omega|rfl|assumption|exact⟨_,rfl,rfl⟩|(simp;omega)|(simp;done)))
      ·have h5:=h;refine au (hargs) ?_;simp -implicitDefEqProofs (disch:=omega) only[go_sem]<;>(repeat(with_reducible refine And.intro ?_ ?_;focus first|omega|rfl|assumption|exact⟨_,rfl,rfl⟩|(simp;omega)|(simp;done)))
       with_reducible refine aj (fun hb=> ?_) (fun hb=> ?_)<;>have h:=hb<;>(try simp only[wf_preprocess] at h)<;>simp -implicitDefEqProofs (disch:=omega) only[go_sem,hb]<;>(repeat(with_reducible refine And.intro ?_ ?_;focus first|omega|rfl|assumption|exact⟨_,rfl,rfl⟩|(simp;omega)|(simp;done)))
       ·have h6:=h;refine au (ac5) ?_;simp -implicitDefEqProofs (disch:=omega) only[go_sem]<;>(repeat(with_reducible refine And.intro ?_ ?_;focus first|omega|rfl|assumption|exact⟨_,rfl,rfl⟩|(simp;omega)|(simp;done)));exact ay (dY ⟨fun e=>ak.ext h1 h2 h3 h4 h5 h6 e,fun e=>by rw[e]⟩)
       ·exact ay (aI (fun e=>h (by rw[e]))).symm
      ·exact ay (aI (fun e=>h (by rw[e]))).symm
     ·exact ay (aI (fun e=>h (by rw[e]))).symm
    ·exact ay (aI (fun e=>h (by rw[e]))).symm
   ·exact ay (aI (fun e=>h (by rw[e]))).symm
  ·exact ay (aI (fun e=>h (by rw[e]))).symm
theorem DV(x y:ak)(h:x.sz<=4194304):aT prog 105 [x.v,y.v] (.c (.d (.b (dec (x=y))))):=vM _ x (cg _) y h
theorem vN:∀n:Nat,∀x:ak,SizeOf.sizeOf x<n->∀y:ak,x.sz<=4194304->aT prog 137 [x.v,y.v] (.c (.d (.b (dec (x=y)))))
 |0=>fun x h=>by omega
 |n+1=>by
  have ih:=vN n;intro x hn y hsz S;have kH:=ak.gM x;have zw:=ak.qZ x;have hb0:=ak.wZ hsz;refine zcx [.tmp 4] func137 ntmps137 ?_;simp -implicitDefEqProofs (disch:=omega) only[go_sem]
  with_reducible refine aj (fun hb=> ?_) (fun hb=> ?_)<;>have h:=hb<;>(try simp only[wf_preprocess] at h)<;>simp -implicitDefEqProofs (disch:=omega) only[go_sem,hb]<;>(repeat(with_reducible refine And.intro ?_ ?_;focus first|omega|rfl|assumption|exact⟨_,rfl,rfl⟩|(simp;omega)|(simp;done)))
  ·exact ay (aI (fun e=>h (by rw[e]))).symm
  have h1:=h
  with_reducible refine aj (fun hb=> ?_) (fun hb=> ?_)<;>have h:=hb<;>(try simp only[wf_preprocess] at h)<;>simp -implicitDefEqProofs (disch:=omega) only[go_sem,hb]<;>(repeat(with_reducible refine And.intro ?_ ?_;focus first|omega|rfl|assumption|exact⟨_,rfl,rfl⟩|(simp;omega)|(simp;done)))
  ·exact ay (aI (fun e=>h (by rw[e]))).symm
  have h2:=h
  with_reducible refine aj (fun hb=> ?_) (fun hb=> ?_)<;>have h:=hb<;>(try simp only[wf_preprocess] at h)<;>simp -implicitDefEqProofs (disch:=omega) only[go_sem,hb]<;>(repeat(with_reducible refine And.intro ?_ ?_;focus first|omega|rfl|assumption|exact⟨_,rfl,rfl⟩|(simp;omega)|(simp;done)))
  ·exact ay (aI (fun e=>h (by rw[e]))).symm
  have h3:=h
  with_reducible refine aj (fun hb=> ?_) (fun hb=> ?_)<;>have h:=hb<;>(try simp only[wf_preprocess] at h)<;>simp -implicitDefEqProofs (disch:=omega) only[go_sem,hb]<;>(repeat(with_reducible refine And.intro ?_ ?_;focus first|omega|rfl|assumption|exact⟨_,rfl,rfl⟩|(simp;omega)|(simp;done)))
  ·exact ay (aI (fun e=>h (by rw[e]))).symm
  have h4:=h;refine au (DL x.fType y.fType (by omega)) ?_;simp -implicitDefEqProofs (disch:=omega) only[go_sem]<;>(repeat(with_reducible refine And.intro ?_ ?_;focus first|omega|rfl|assumption|exact⟨_,rfl,rfl⟩|(simp;omega)|(simp;done)))
  with_reducible refine aj (fun hb=> ?_) (fun hb=> ?_)<;>have h:=hb<;>(try simp only[wf_preprocess] at h)<;>simp -implicitDefEqProofs (disch:=omega) only[go_sem,hb]<;>(repeat(with_reducible refine And.intro ?_ ?_;focus first|omega|rfl|assumption|exact⟨_,rfl,rfl⟩|(simp;omega)|(simp;done)))
  ·exact ay (aI (fun e=>h (by rw[e]))).symm
  have h5:=h
  with_reducible refine aj (fun hb=> ?_) (fun hb=> ?_)<;>have h:=hb<;>(try simp only[wf_preprocess] at h)<;>simp -implicitDefEqProofs (disch:=omega) only[go_sem,hb]<;>(repeat(with_reducible refine And.intro ?_ ?_;focus first|omega|rfl|assumption|exact⟨_,rfl,rfl⟩|(simp;omega)|(simp;done)))
  ·exact ay (aI (fun e=>h (by rw[e]))).symm
  have h6:x.fArgs.length=y.fArgs.length:=by omega
  with_reducible refine aj (fun hb=> ?_) (fun hb=> ?_)<;>have h:=hb<;>(try simp only[wf_preprocess] at h)<;>simp -implicitDefEqProofs (disch:=omega) only[go_sem,hb]<;>(repeat(with_reducible refine And.intro ?_ ?_;focus first|omega|rfl|assumption|exact⟨_,rfl,rfl⟩|(simp;omega)|(simp;done)))
  ·exact ay (aI (fun e=>h (by rw[e]))).symm
  have h7:x.aX.length=y.aX.length:=by omega
  refine bn (ι:=Nat) zmx rfl [2,3,5] (fun i=>[.c (.ptr (0,0) 0),.c (.ptr (0,1) 0),.c (.d (.i .i64 i))]) (fun _=>[.box (x.enc.map .d),.box (y.enc.map .d)]::S)
   (fun i=>i<=x.fArgs.length/\∀j,j<i->x.fArgs[j]? =y.fArgs[j]?) (fun i=>x.fArgs.length-i) 0 rfl ?_ ⟨ao _,fun j h=>by omega⟩ ?_
  ·simp -implicitDefEqProofs (disch:=omega) only[go_sem]
  rintro i ⟨p1,p2⟩;simp -implicitDefEqProofs (disch:=omega) only[go_sem]
  with_reducible refine aj (fun hb=> ?_) (fun hb=> ?_)<;>have h:=hb<;>(try simp only[wf_preprocess] at h)<;>simp -implicitDefEqProofs (disch:=omega) only[go_sem,hb]<;>(repeat(with_reducible refine And.intro ?_ ?_;focus first|omega|rfl|assumption|exact⟨_,rfl,rfl⟩|(simp;omega)|(simp;done)))
  ·have hi:i<x.fArgs.length:=by omega
   have hi':i<y.fArgs.length:=by omega
   (repeat(with_reducible refine And.intro ?_ ?_;focus first|omega|rfl|assumption|exact⟨_,rfl,rfl⟩|(simp;omega)|(simp;done)))
   refine au (ih x.fArgs[i] (by have:=be (ac hi);omega) y.fArgs[i] (ak.Yy hi hsz)) ?_;simp -implicitDefEqProofs (disch:=omega) only[go_sem]<;>(repeat(with_reducible refine And.intro ?_ ?_;focus first|omega|rfl|assumption|exact⟨_,rfl,rfl⟩|(simp;omega)|(simp;done)))
   with_reducible refine aj (fun hb=> ?_) (fun hb=> ?_)<;>have h:=hb<;>(try simp only[wf_preprocess] at h)<;>simp -implicitDefEqProofs (disch:=omega) only[go_sem,hb]<;>(repeat(with_reducible refine And.intro ?_ ?_;focus first|omega|rfl|assumption|exact⟨_,rfl,rfl⟩|(simp;omega)|(simp;done)))
   ·exact ay (aI (fun e=>h (by simp only[e]))).symm
   refine bU (i+1) (by omega) rfl rfl ⟨by omega,fun j hj=> ?_⟩;by_cases e:j=i
   ·subst e;rw[ag hi,ag hi',h]
   ·exact p2 j (by omega)
  have hi:i=x.fArgs.length:=by omega
  have h8:x.fArgs=y.fArgs:=cy fun j=>by
   by_cases hj:j<i
   ·exact p2 j hj
   ·rw[bp (by omega),bp (by omega)]
  refine bn (ι:=Nat) zmx rfl [2,3,6] (fun i=>[.c (.ptr (0,0) 0),.c (.ptr (0,1) 0),.c (.d (.i .i64 i))]) (fun _=>[.box (x.enc.map .d),.box (y.enc.map .d)]::S)
   (fun i=>i<=x.aX.length/\∀j,j<i->x.aX[j]? =y.aX[j]?) (fun i=>x.aX.length-i) 0 rfl ?_ ⟨ao _,fun j h=>by omega⟩ ?_
  ·simp -implicitDefEqProofs (disch:=omega) only[go_sem]
  clear p1 p2 hi hb h;clear i;rintro i ⟨p1,p2⟩;simp -implicitDefEqProofs (disch:=omega) only[go_sem]
  with_reducible refine aj (fun hb=> ?_) (fun hb=> ?_)<;>have h:=hb<;>(try simp only[wf_preprocess] at h)<;>simp -implicitDefEqProofs (disch:=omega) only[go_sem,hb]<;>(repeat(with_reducible refine And.intro ?_ ?_;focus first|omega|rfl|assumption|exact⟨_,rfl,rfl⟩|(simp;omega)|(simp;done)))
  ·have hi:i<x.aX.length:=by omega
   have hi':i<y.aX.length:=by omega
   have hs:=be (ac hi);have hz:=aR.wZ (ak.Yz hi hsz);have ac6:=aR.pX x.aX[i]
   (repeat(with_reducible refine And.intro ?_ ?_;focus first|omega|rfl|assumption|exact⟨_,rfl,rfl⟩|(simp;omega)|(simp;done)))
   with_reducible refine aj (fun hb=> ?_) (fun hb=> ?_)<;>have h:=hb<;>(try simp only[wf_preprocess] at h)<;>simp -implicitDefEqProofs (disch:=omega) only[go_sem,hb]<;>(repeat(with_reducible refine And.intro ?_ ?_;focus first|omega|rfl|assumption|exact⟨_,rfl,rfl⟩|(simp;omega)|(simp;done)))
   ·exact ay (aI (fun e=>h (by simp only[e]))).symm
   have k1:=h
   (repeat(with_reducible refine And.intro ?_ ?_;focus first|omega|rfl|assumption|exact⟨_,rfl,rfl⟩|(simp;omega)|(simp;done)))
   refine au (Nk x.aX[i].aO y.aX[i].aO (by omega)) ?_;simp -implicitDefEqProofs (disch:=omega) only[go_sem]<;>(repeat(with_reducible refine And.intro ?_ ?_;focus first|omega|rfl|assumption|exact⟨_,rfl,rfl⟩|(simp;omega)|(simp;done)))
   with_reducible refine aj (fun hb=> ?_) (fun hb=> ?_)<;>have h:=hb<;>(try simp only[wf_preprocess] at h)<;>simp -implicitDefEqProofs (disch:=omega) only[go_sem,hb]<;>(repeat(with_reducible refine And.intro ?_ ?_;focus first|omega|rfl|assumption|exact⟨_,rfl,rfl⟩|(simp;omega)|(simp;done)))
   ·exact ay (aI (fun e=>h (by simp only[e]))).symm
   have k2:=h
   (repeat(with_reducible refine And.intro ?_ ?_;focus first|omega|rfl|assumption|exact⟨_,rfl,rfl⟩|(simp;omega)|(simp;done)))
   refine au (ih x.aX[i].fBody (by omega) y.aX[i].fBody (by omega)) ?_;simp -implicitDefEqProofs (disch:=omega) only[go_sem]<;>(repeat(with_reducible refine And.intro ?_ ?_;focus first|omega|rfl|assumption|exact⟨_,rfl,rfl⟩|(simp;omega)|(simp;done)))
   with_reducible refine aj (fun hb=> ?_) (fun hb=> ?_)<;>have h:=hb<;>(try simp only[wf_preprocess] at h)<;>simp -implicitDefEqProofs (disch:=omega) only[go_sem,hb]<;>(repeat(with_reducible refine And.intro ?_ ?_;focus first|omega|rfl|assumption|exact⟨_,rfl,rfl⟩|(simp;omega)|(simp;done)))
   ·exact ay (aI (fun e=>h (by simp only[e]))).symm
   have k3:=h;refine bU (i+1) (by omega) rfl rfl ⟨by omega,fun j hj=> ?_⟩;by_cases e:j=i
   ·subst e;rw[ag hi,ag hi',aR.ext k1 k2 k3]
   ·exact p2 j (by omega)
  ·have hi:i=x.aX.length:=by omega
   have h9:x.aX=y.aX:=cy fun j=>by
    by_cases hj:j<i
    ·exact p2 j hj
    ·rw[bp (by omega),bp (by omega)]
   exact ay (bg (ak.ext h1 h2 h3 h4 h5 h8 h9)).symm
theorem DW(x y:ak)(h:x.sz<=4194304):aT prog 137 [x.v,y.v] (.c (.d (.b (dec (x=y))))):=vN _ x (cg _) y h
theorem yQ:∀n:Nat,∀t:ah,SizeOf.sizeOf t<n->t.sz<=4194304->∀v:List UInt8,aT prog 119 [t.v,.c (.d (.s v))] (.c (.d (.i .i64 (lM v t))))
 |0=>fun t h=>by omega
 |n+1=>by
  have ih:=yQ n;intro t hn hsz v S;have kH:=ah.gM t;have hts:=Bc hsz;have hcl:=TW v t;have hcn:=iP t;have he:=TV v t;refine zcx [.tmp 4] func119 ntmps119 ?_;simp -implicitDefEqProofs (disch:=omega) only[go_sem]
  repeat' (first|(with_reducible refine aj (fun hb=> ?_) (fun hb=> ?_)<;>have h:=hb<;>(try simp only[wf_preprocess] at h)<;>simp -implicitDefEqProofs (disch:=omega) only[go_sem,hb]<;>(repeat(with_reducible refine And.intro ?_ ?_;focus first|omega|rfl|assumption|exact⟨_,rfl,rfl⟩|(simp;omega)|(simp;done)))))
  all_goals first
   |(have hc:lM v t=1+p9 v t.fArgs:=by rw[he,if_pos (by simp only[Fv,decide_eq_true_eq];exact⟨by assumption,by assumption⟩)])
   |(have hc:lM v t=0+p9 v t.fArgs:=by rw[he,if_neg (by simp only[Fv,decide_eq_true_eq];exact fun x=>by have:=x.1;have:=x.2;contradiction)])
  all_goals
   refine bn (ι:=Nat×Nat) zmx rfl [1,2,5,6] (fun y=>[.c (.d (.s v)),.c (.ptr (0,0) 0),.c (.d (.i .i64 y.2)),.c (.d (.i .i64 y.1))]) (fun _=>[.box [.d (.i .i64 t.aW),.d (.s t.fName),.d (.sl (t.fArgs.map ah.enc))]]::S)
    (fun y=>y.1<=t.fArgs.length/\lM v t=y.2+p9 v (t.fArgs.drop y.1)) (fun y=>t.fArgs.length-y.1) (0,_) rfl rfl ⟨ao _,hc⟩ ?_
   rintro⟨i,c⟩ ⟨p1,p2⟩;simp only at p1 p2;simp -implicitDefEqProofs (disch:=omega) only[go_sem]
   with_reducible refine aj (fun hb=> ?_) (fun hb=> ?_)<;>have h:=hb<;>(try simp only[wf_preprocess] at h)<;>simp -implicitDefEqProofs (disch:=omega) only[go_sem,hb]<;>(repeat(with_reducible refine And.intro ?_ ?_;focus first|omega|rfl|assumption|exact⟨_,rfl,rfl⟩|(simp;omega)|(simp;done)))
   ·have hi:i<t.fArgs.length:=by omega
    rw[Ll hi] at p2
    (repeat(with_reducible refine And.intro ?_ ?_;focus first|omega|rfl|assumption|exact⟨_,rfl,rfl⟩|(simp;omega)|(simp;done)))
    refine au (ih t.fArgs[i] (by have:=be (ac hi);omega) (wE hi hsz).1 v) ?_;simp -implicitDefEqProofs (disch:=omega) only[go_sem]<;>(repeat(with_reducible refine And.intro ?_ ?_;focus first|omega|rfl|assumption|exact⟨_,rfl,rfl⟩|(simp;omega)|(simp;done)));rw[show(c:Int)+(lM v t.fArgs[i]:Int)=((c+lM v t.fArgs[i]:Nat):Int) by omega];exact bU (i+1,c+lM v t.fArgs[i]) (by simp only;omega) rfl rfl ⟨by simp only;omega,by simp only;omega⟩
   ·have hi:i=t.fArgs.length:=by omega
    rw[hi,cj] at p2;have h0:p9 v []=0:=rfl;exact int_eq (by omega)
theorem Jo(v:List UInt8)(t:ah)(hsz:t.sz<=4194304):aT prog 101 [.c (.d (.s v)),t.v] (.c (.d (.b (occurs v t)))):=fun S=>by
 refine zcx [.tmp 4] func101 ntmps101 ?_;simp -implicitDefEqProofs (disch:=omega) only[go_sem];refine au (yQ _ t (cg _) hsz v) ?_;simp -implicitDefEqProofs (disch:=omega) only[go_sem]<;>(repeat(with_reducible refine And.intro ?_ ?_;focus first|omega|rfl|assumption|exact⟨_,rfl,rfl⟩|(simp;omega)|(simp;done)));exact ay (by unfold occurs;rw[eh];simp only[decide_eq_true_eq];omega)
def zeroE:ak:=.mk 0 [] [] 0 (.mk 0 [] []) [] []
def Ca:List (List UInt8):=[[115,101,108,102]]
noncomputable def Bj(vars:List (List UInt8))(e:ak):Bool:=pJ e&&among (ig e [] []) vars
noncomputable def nu(vars:List (List UInt8))(e:ak):Bool:=fU vars&&Bj vars e
noncomputable def jS(vars:List (List UInt8))(b:bR):Bool:=(validName b.dP&&kg b.fType)&&(!lY b.fType&&among (gB [] b.fType) vars)
noncomputable def mR(vars:List (List UInt8))(bs:List bR):Bool:=dec (bs.length<=4)&&bs.all (jS vars)
noncomputable def gL(g:bA):Bool:=
 validName g.fName&&(dec (g.bQ.length<=4)&&(ji Ca g.bQ&&(fH Ca g.eZ&&
  (if g.j4=true then dec (g.aO.length=g.bQ.length+1)&&nu g.aO g.fBody else dec (g.aO.length=0)&&dec (g.fBody=zeroE)))))
theorem Om{xs:List ah}{t:ah}(h:t∈xs):t.sz<=aH (xs.map ah.enc):=dK (bd h)
theorem Cb{xs:List bR}{t:bR}(h:t∈xs):t.sz<=aH (xs.map bR.enc):=dK (bd h)
theorem bA.sum(x:bA):x.fName.length+(x.bQ.length+aH (x.bQ.map ah.enc))+x.eZ.sz+(x.aO.length+aH (x.aO.map encS))+x.fBody.sz<=x.sz:=by
 simp only[bA.sz,bA.aB,aY,bG,D.sz,al,ah.cB,ak.cB];omega
theorem bR.sum(x:bR):x.dP.length+x.fType.sz<=x.sz:=by
 simp only[bR.sz,bR.aB,aY,bG,D.sz,al,ah.cB];omega
theorem LD(e:ak)(h:e.sz<=4194304):(ig e [] []).length<=1073741824:=by
 have h1:=pK e [] [];have h2:=ak.iP e;simp at h1;omega
theorem FN(t:ah)(h:t.sz<=4194304):(gB [] t).length<=1073741824:=by
 have h1:=vg t [];have h2:=_root_.Go.Ab.iP t;simp at h1;omega
theorem Dc(vars:List (List UInt8))(t:ah):fH vars t=(kg t&&among (gB [] t) vars):=rfl
theorem Bl(vars:List (List UInt8))(e:ak)(hv:vars.length<=1073741824)(hs:∀s∈vars,s.length<=4194304)(hsz:e.sz<=4194304):aT prog 65 [.c (.d (.sl (vars.map encS))),e.v] (.c (.d (.b (nu vars e)))):=fun S=>by
 refine zcx [.tmp 4] func65 ntmps65 ?_;simp -implicitDefEqProofs (disch:=omega) only[go_sem];refine au (j5 vars hv hs) ?_;simp -implicitDefEqProofs (disch:=omega) only[go_sem]<;>(repeat(with_reducible refine And.intro ?_ ?_;focus first|omega|rfl|assumption|exact⟨_,rfl,rfl⟩|(simp;omega)|(simp;done)))
 with_reducible refine aj (fun hb=> ?_) (fun hb=> ?_)<;>have h:=hb<;>(try simp only[wf_preprocess] at h)<;>simp -implicitDefEqProofs (disch:=omega) only[go_sem,hb]<;>(repeat(with_reducible refine And.intro ?_ ?_;focus first|omega|rfl|assumption|exact⟨_,rfl,rfl⟩|(simp;omega)|(simp;done)))
 ·have h1:=h;refine au (DJ e hsz) ?_;simp -implicitDefEqProofs (disch:=omega) only[go_sem]<;>(repeat(with_reducible refine And.intro ?_ ?_;focus first|omega|rfl|assumption|exact⟨_,rfl,rfl⟩|(simp;omega)|(simp;done)))
  with_reducible refine aj (fun hb=> ?_) (fun hb=> ?_)<;>have h:=hb<;>(try simp only[wf_preprocess] at h)<;>simp -implicitDefEqProofs (disch:=omega) only[go_sem,hb]<;>(repeat(with_reducible refine And.intro ?_ ?_;focus first|omega|rfl|assumption|exact⟨_,rfl,rfl⟩|(simp;omega)|(simp;done)))
  ·have h2:=h;refine au (FL e hsz) ?_;simp -implicitDefEqProofs (disch:=omega) only[go_sem]<;>(repeat(with_reducible refine And.intro ?_ ?_;focus first|omega|rfl|assumption|exact⟨_,rfl,rfl⟩|(simp;omega)|(simp;done)));refine au (qH _ vars (LD e hsz) hv) ?_;simp -implicitDefEqProofs (disch:=omega) only[go_sem]<;>(repeat(with_reducible refine And.intro ?_ ?_;focus first|omega|rfl|assumption|exact⟨_,rfl,rfl⟩|(simp;omega)|(simp;done)));exact ay (by unfold nu Bj;rw[h1,h2];rfl)
  ·exact ay (by unfold nu Bj;rw[h];simp)
 ·exact ay (by unfold nu;rw[h];rfl)
theorem zC(vars:List (List UInt8))(e:ak)(hv:vars.length<=1073741824)(hsz:e.sz<=4194304):aT prog 103 [e.v,.c (.d (.sl (vars.map encS)))] (.c (.d (.b (Bj vars e)))):=fun S=>by
 have hlen:=LD e hsz;refine zcx [.tmp 4] func103 ntmps103 ?_;simp -implicitDefEqProofs (disch:=omega) only[go_sem];refine au (FM e hsz) ?_;simp -implicitDefEqProofs (disch:=omega) only[go_sem]<;>(repeat(with_reducible refine And.intro ?_ ?_;focus first|omega|rfl|assumption|exact⟨_,rfl,rfl⟩|(simp;omega)|(simp;done)));unfold Bj;generalize ig e [] []=xs at hlen ⊢
 refine bn (ι:=Nat) zmx rfl [1,2,5,6] (fun i=>[.c (.d (.sl (vars.map encS))),.c (.ptr (0,0) 0),.c (.d (.sl (xs.map encS))),.c (.d (.i .i64 i))]) (fun _=>[.box (e.enc.map .d)]::S)
  (fun i=>i<=xs.length/\among (xs.drop i) vars=among xs vars) (fun i=>xs.length-i) 0 rfl ?_ ⟨ao _,rfl⟩ ?_
 ·simp -implicitDefEqProofs (disch:=omega) only[go_sem]
 rintro i ⟨p1,p2⟩;simp -implicitDefEqProofs (disch:=omega) only[go_sem,encS]
 with_reducible refine aj (fun hb=> ?_) (fun hb=> ?_)<;>have h:=hb<;>(try simp only[wf_preprocess] at h)<;>simp -implicitDefEqProofs (disch:=omega) only[go_sem,hb,encS]<;>(repeat(with_reducible refine And.intro ?_ ?_;focus first|omega|rfl|assumption|exact⟨_,rfl,rfl⟩|(simp;omega)|(simp;done)))
 ·have hi:i<xs.length:=by omega
  rw[bh hi] at p2;have p3:among xs vars=(dec (xs[i]∈vars)&&among (xs.drop (i+1)) vars):=p2.symm
  (repeat(with_reducible refine And.intro ?_ ?_;focus first|omega|rfl|assumption|exact⟨_,rfl,rfl⟩|(simp;omega)|(simp;done)))
  refine au (nO vars xs[i] hv) ?_;simp -implicitDefEqProofs (disch:=omega) only[go_sem]<;>(repeat(with_reducible refine And.intro ?_ ?_;focus first|omega|rfl|assumption|exact⟨_,rfl,rfl⟩|(simp;omega)|(simp;done)))
  with_reducible refine aj (fun hb=> ?_) (fun hb=> ?_)<;>have h:=hb<;>(try simp only[wf_preprocess] at h)<;>simp -implicitDefEqProofs (disch:=omega) only[go_sem,hb]<;>(repeat(with_reducible refine And.intro ?_ ?_;focus first|omega|rfl|assumption|exact⟨_,rfl,rfl⟩|(simp;omega)|(simp;done)))
  ·exact ay (by rw[p3,aI h];simp)
  ·exact bU (i+1) (by omega) rfl rfl ⟨by omega,by rw[p3,bg h];rfl⟩
 ·rw[bz (by omega)] at p2;have p3:among xs vars=true:=p2.symm
  (repeat(with_reducible refine And.intro ?_ ?_;focus first|omega|rfl|assumption|exact⟨_,rfl,rfl⟩|(simp;omega)|(simp;done)))
  refine au (DK e hsz) ?_;simp -implicitDefEqProofs (disch:=omega) only[go_sem]<;>(repeat(with_reducible refine And.intro ?_ ?_;focus first|omega|rfl|assumption|exact⟨_,rfl,rfl⟩|(simp;omega)|(simp;done)));exact ay (by rw[p3];simp)
theorem FP(vars:List (List UInt8))(hv:vars.length<=1073741824)(rest:List Ab.Obj)(S:Store)(b:bR)(hb:b.sz<=4194304):jB prog 92 [((0,0),0)] ((.box [.d (.sl (vars.map encS))]::rest)::S) [b.v] (.c (.d (.b (!jS vars b)))):=fun F=>by
 have hs:=bR.sum b;refine zcx [.tmp 3] func92 ntmps92 ?_;simp -implicitDefEqProofs (disch:=omega) only[go_sem];refine au (Cw b (by omega) (by omega)) ?_;simp -implicitDefEqProofs (disch:=omega) only[go_sem]<;>(repeat(with_reducible refine And.intro ?_ ?_;focus first|omega|rfl|assumption|exact⟨_,rfl,rfl⟩|(simp;omega)|(simp;done)))
 with_reducible refine aj (fun hb=> ?_) (fun hb=> ?_)<;>have h:=hb<;>(try simp only[wf_preprocess] at h)<;>simp -implicitDefEqProofs (disch:=omega) only[go_sem,hb]<;>(repeat(with_reducible refine And.intro ?_ ?_;focus first|omega|rfl|assumption|exact⟨_,rfl,rfl⟩|(simp;omega)|(simp;done)))
 ·exact ay (by unfold jS;rw[h];rfl)
 have h1:=h
 (repeat(with_reducible refine And.intro ?_ ?_;focus first|omega|rfl|assumption|exact⟨_,rfl,rfl⟩|(simp;omega)|(simp;done)))
 refine au (yP b.fType (by omega)) ?_;simp -implicitDefEqProofs (disch:=omega) only[go_sem]<;>(repeat(with_reducible refine And.intro ?_ ?_;focus first|omega|rfl|assumption|exact⟨_,rfl,rfl⟩|(simp;omega)|(simp;done)))
 with_reducible refine aj (fun hb=> ?_) (fun hb=> ?_)<;>have h:=hb<;>(try simp only[wf_preprocess] at h)<;>simp -implicitDefEqProofs (disch:=omega) only[go_sem,hb]<;>(repeat(with_reducible refine And.intro ?_ ?_;focus first|omega|rfl|assumption|exact⟨_,rfl,rfl⟩|(simp;omega)|(simp;done)))
 ·exact ay (by unfold jS;rw[h];simp)
 have h2:=h
 (repeat(with_reducible refine And.intro ?_ ?_;focus first|omega|rfl|assumption|exact⟨_,rfl,rfl⟩|(simp;omega)|(simp;done)))
 refine au (sI b.fType (by omega)) ?_;simp -implicitDefEqProofs (disch:=omega) only[go_sem]<;>(repeat(with_reducible refine And.intro ?_ ?_;focus first|omega|rfl|assumption|exact⟨_,rfl,rfl⟩|(simp;omega)|(simp;done)));refine au (qH _ vars (FN _ (by omega)) hv) ?_;simp -implicitDefEqProofs (disch:=omega) only[go_sem]<;>(repeat(with_reducible refine And.intro ?_ ?_;focus first|omega|rfl|assumption|exact⟨_,rfl,rfl⟩|(simp;omega)|(simp;done)));exact ay (by unfold jS;rw[h1,h2];simp)
theorem Bn(bs:List bR)(vars:List (List UInt8))(hl:bs.length<=1073741824)(hz:∀b∈bs,b.sz<=4194304)(hv:vars.length<=1073741824):aT prog 63 [.c (.d (.sl (bs.map bR.enc))),.c (.d (.sl (vars.map encS)))] (.c (.d (.b (mR vars bs)))):=fun S=>by
 have ha:(bs.any fun t=> !jS vars t)= !bs.all (jS vars):=by rw[eb]
 refine zcx [.tmp 4] func63 ntmps63 ?_;simp -implicitDefEqProofs (disch:=omega) only[go_sem]
 with_reducible refine aj (fun hb=> ?_) (fun hb=> ?_)<;>have h:=hb<;>(try simp only[wf_preprocess] at h)<;>simp -implicitDefEqProofs (disch:=omega) only[go_sem,hb]<;>(repeat(with_reducible refine And.intro ?_ ?_;focus first|omega|rfl|assumption|exact⟨_,rfl,rfl⟩|(simp;omega)|(simp;done)))
 ·have h1:=h
  (repeat(with_reducible refine And.intro ?_ ?_;focus first|omega|rfl|assumption|exact⟨_,rfl,rfl⟩|(simp;omega)|(simp;done)))
  refine bq rfl (zu 92 [((0,0),0)] _ bs (fun t=> !jS vars t) hl fun t hx=>FP vars hv [] S t (hz t hx)) ?_;simp -implicitDefEqProofs (disch:=omega) only[go_sem];rw[ha];exact ay (by unfold mR;rw[bg (by omega)];simp)
 ·exact ay (by unfold mR;rw[aI (by omega)];rfl)
theorem Df(bs:List bR)(vars:List (List UInt8))(hl:bs.length<=1073741824)(hz:∀b∈bs,b.sz<=4194304)(hv:vars.length<=1073741824):aT prog 100 [.c (.d (.sl (bs.map bR.enc))),.c (.d (.sl (vars.map encS)))] (.c (.d (.b (mR vars bs)))):=fun S=>by
 refine zcx [.tmp 4] func100 ntmps100 ?_;simp -implicitDefEqProofs (disch:=omega) only[go_sem]
 refine bn (ι:=Nat) zmx rfl [0,1,5] (fun i=>[.c (.d (.sl (bs.map bR.enc))),.c (.d (.sl (vars.map encS))),.c (.d (.i .i64 i))]) (fun _=>[]::S)
  (fun i=>i<=bs.length/\(bs.drop i).all (jS vars)=bs.all (jS vars)) (fun i=>bs.length-i) 0 rfl rfl ⟨ao _,rfl⟩ ?_
 rintro i ⟨p1,p2⟩;simp -implicitDefEqProofs (disch:=omega) only[go_sem]
 with_reducible refine aj (fun hb=> ?_) (fun hb=> ?_)<;>have h:=hb<;>(try simp only[wf_preprocess] at h)<;>simp -implicitDefEqProofs (disch:=omega) only[go_sem,hb]<;>(repeat(with_reducible refine And.intro ?_ ?_;focus first|omega|rfl|assumption|exact⟨_,rfl,rfl⟩|(simp;omega)|(simp;done)))
 ·have hi:i<bs.length:=by omega
  have hb:=hz _ (ac hi);have hs:=bR.sum bs[i];rw[bh hi,ef] at p2;have no:jS vars bs[i]=false->V.c (.d (.b false))=V.c (.d (.b (mR vars bs))):=fun h=>ay (by unfold mR;rw[<-p2,h];simp)
  (repeat(with_reducible refine And.intro ?_ ?_;focus first|omega|rfl|assumption|exact⟨_,rfl,rfl⟩|(simp;omega)|(simp;done)))
  refine au (Cv bs[i] (by omega) (by omega)) ?_;simp -implicitDefEqProofs (disch:=omega) only[go_sem]<;>(repeat(with_reducible refine And.intro ?_ ?_;focus first|omega|rfl|assumption|exact⟨_,rfl,rfl⟩|(simp;omega)|(simp;done)))
  with_reducible refine aj (fun hb=> ?_) (fun hb=> ?_)<;>have h:=hb<;>(try simp only[wf_preprocess] at h)<;>simp -implicitDefEqProofs (disch:=omega) only[go_sem,hb]<;>(repeat(with_reducible refine And.intro ?_ ?_;focus first|omega|rfl|assumption|exact⟨_,rfl,rfl⟩|(simp;omega)|(simp;done)))
  ·exact no (by unfold jS;rw[h];rfl)
  have h1:=h
  (repeat(with_reducible refine And.intro ?_ ?_;focus first|omega|rfl|assumption|exact⟨_,rfl,rfl⟩|(simp;omega)|(simp;done)))
  refine au (nP bs[i].fType vars (by omega) hv) ?_;simp -implicitDefEqProofs (disch:=omega) only[go_sem]<;>(repeat(with_reducible refine And.intro ?_ ?_;focus first|omega|rfl|assumption|exact⟨_,rfl,rfl⟩|(simp;omega)|(simp;done)))
  with_reducible refine aj (fun hb=> ?_) (fun hb=> ?_)<;>have h:=hb<;>(try simp only[wf_preprocess] at h)<;>simp -implicitDefEqProofs (disch:=omega) only[go_sem,hb]<;>(repeat(with_reducible refine And.intro ?_ ?_;focus first|omega|rfl|assumption|exact⟨_,rfl,rfl⟩|(simp;omega)|(simp;done)))
  ·exact no (by unfold jS;rw[Dc] at h;rw[aq] at h1;rw[h1.2,bj] at h;rw[h];simp)
  have h2:=h
  (repeat(with_reducible refine And.intro ?_ ?_;focus first|omega|rfl|assumption|exact⟨_,rfl,rfl⟩|(simp;omega)|(simp;done)))
  refine au (yO bs[i].fType (by omega)) ?_;simp -implicitDefEqProofs (disch:=omega) only[go_sem]<;>(repeat(with_reducible refine And.intro ?_ ?_;focus first|omega|rfl|assumption|exact⟨_,rfl,rfl⟩|(simp;omega)|(simp;done)))
  with_reducible refine aj (fun hb=> ?_) (fun hb=> ?_)<;>have h:=hb<;>(try simp only[wf_preprocess] at h)<;>simp -implicitDefEqProofs (disch:=omega) only[go_sem,hb]<;>(repeat(with_reducible refine And.intro ?_ ?_;focus first|omega|rfl|assumption|exact⟨_,rfl,rfl⟩|(simp;omega)|(simp;done)))
  ·exact no (by unfold jS;rw[h];simp)
  have h3:=h;rw[Dc,aq] at h2;exact bU (i+1) (by omega) rfl rfl ⟨by omega,by rw[<-p2];unfold jS;rw[h1,h2.2,h3];rfl⟩
 ·rw[bz (by omega)] at p2;exact ay (by unfold mR;rw[<-p2,j3];simp only[dj,bx];exact dY ⟨fun h=>by omega,fun h=>by omega⟩)
theorem Jp(e:ak)(hsz:e.sz<=4194304):aT prog 84 [e.v] (.c (.d (.b (dec (e=zeroE))))):=fun S=>by
 refine zcx [.tmp 2] func84 ntmps84 ?_;simp -implicitDefEqProofs (disch:=omega) only[go_sem];refine au (DV e zeroE hsz) ?_;simp -implicitDefEqProofs (disch:=omega) only[go_sem]
theorem QM(e:ak)(hsz:e.sz<=4194304):aT prog 115 [e.v] (.c (.d (.b (dec (e=zeroE))))):=fun S=>by
 refine zcx [.tmp 2] func115 ntmps115 ?_;simp -implicitDefEqProofs (disch:=omega) only[go_sem];refine au (DW e zeroE hsz) ?_;simp -implicitDefEqProofs (disch:=omega) only[go_sem]
theorem GX(g:bA)(hsz:g.sz<=4194304):aT prog 58 [g.v] (.c (.d (.b (gL g)))):=fun S=>by
 have hs:=bA.sum g
 have hT:∀t∈g.bQ,t.sz<=4194304:=fun t ht=>by have:=Om ht;omega
 have hV:∀s∈g.aO,s.length<=4194304:=fun s h=>by have:=mG h;omega
 refine zcx [.tmp 2] func58 ntmps58 ?_;simp -implicitDefEqProofs (disch:=omega) only[go_sem];refine au (fA g.fName (by omega)) ?_;simp -implicitDefEqProofs (disch:=omega) only[go_sem]<;>(repeat(with_reducible refine And.intro ?_ ?_;focus first|omega|rfl|assumption|exact⟨_,rfl,rfl⟩|(simp;omega)|(simp;done)))
 with_reducible refine aj (fun hb=> ?_) (fun hb=> ?_)<;>have h:=hb<;>(try simp only[wf_preprocess] at h)<;>simp -implicitDefEqProofs (disch:=omega) only[go_sem,hb]<;>(repeat(with_reducible refine And.intro ?_ ?_;focus first|omega|rfl|assumption|exact⟨_,rfl,rfl⟩|(simp;omega)|(simp;done)))
 ·exact ay (by unfold gL;rw[h];rfl)
 have h1:=h
 with_reducible refine aj (fun hb=> ?_) (fun hb=> ?_)<;>have h:=hb<;>(try simp only[wf_preprocess] at h)<;>simp -implicitDefEqProofs (disch:=omega) only[go_sem,hb]<;>(repeat(with_reducible refine And.intro ?_ ?_;focus first|omega|rfl|assumption|exact⟨_,rfl,rfl⟩|(simp;omega)|(simp;done)))
 ·exact ay (by unfold gL;rw[aI (show ¬g.bQ.length<=4 by omega)];simp)
 have h2:=h
 (repeat(with_reducible refine And.intro ?_ ?_;focus first|omega|rfl|assumption|exact⟨_,rfl,rfl⟩|(simp;omega)|(simp;done)))
 refine au (sJ g.bQ Ca (by omega) hT (by decide)) ?_;simp -implicitDefEqProofs (disch:=omega) only[go_sem]
 with_reducible refine aj (fun hb=> ?_) (fun hb=> ?_)<;>have h:=hb<;>(try simp only[wf_preprocess] at h)<;>simp -implicitDefEqProofs (disch:=omega) only[go_sem,hb]<;>(repeat(with_reducible refine And.intro ?_ ?_;focus first|omega|rfl|assumption|exact⟨_,rfl,rfl⟩|(simp;omega)|(simp;done)))
 ·exact ay (by unfold gL;rw[h];simp)
 have h3:=h
 (repeat(with_reducible refine And.intro ?_ ?_;focus first|omega|rfl|assumption|exact⟨_,rfl,rfl⟩|(simp;omega)|(simp;done)))
 refine au (oh g.eZ Ca (by omega) (by decide)) ?_;simp -implicitDefEqProofs (disch:=omega) only[go_sem]
 with_reducible refine aj (fun hb=> ?_) (fun hb=> ?_)<;>have h:=hb<;>(try simp only[wf_preprocess] at h)<;>simp -implicitDefEqProofs (disch:=omega) only[go_sem,hb]<;>(repeat(with_reducible refine And.intro ?_ ?_;focus first|omega|rfl|assumption|exact⟨_,rfl,rfl⟩|(simp;omega)|(simp;done)))
 ·exact ay (by unfold gL;rw[h];simp)
 have h4:=h
 with_reducible refine aj (fun hb=> ?_) (fun hb=> ?_)<;>have h:=hb<;>(try simp only[wf_preprocess] at h)<;>simp -implicitDefEqProofs (disch:=omega) only[go_sem,hb]<;>(repeat(with_reducible refine And.intro ?_ ?_;focus first|omega|rfl|assumption|exact⟨_,rfl,rfl⟩|(simp;omega)|(simp;done)))
 ·have h5:=h
  with_reducible refine aj (fun hb=> ?_) (fun hb=> ?_)<;>have h:=hb<;>(try simp only[wf_preprocess] at h)<;>simp -implicitDefEqProofs (disch:=omega) only[go_sem,hb]<;>(repeat(with_reducible refine And.intro ?_ ?_;focus first|omega|rfl|assumption|exact⟨_,rfl,rfl⟩|(simp;omega)|(simp;done)))
  ·have h6:=h;refine au (Bl g.aO g.fBody (by omega) hV (by omega)) ?_;simp -implicitDefEqProofs (disch:=omega) only[go_sem]<;>(repeat(with_reducible refine And.intro ?_ ?_;focus first|omega|rfl|assumption|exact⟨_,rfl,rfl⟩|(simp;omega)|(simp;done)));exact ay (by unfold gL;rw[h1,h3,h4,if_pos h5,bg (show g.bQ.length<=4 by omega),bg (show g.aO.length=g.bQ.length+1 by omega)];rfl)
  ·exact ay (by unfold gL;rw[if_pos h5,aI (show ¬g.aO.length=g.bQ.length+1 by omega)];simp)
 ·have h5:¬g.j4=true:=by rw[h];simp
  with_reducible refine aj (fun hb=> ?_) (fun hb=> ?_)<;>have h:=hb<;>(try simp only[wf_preprocess] at h)<;>simp -implicitDefEqProofs (disch:=omega) only[go_sem,hb]<;>(repeat(with_reducible refine And.intro ?_ ?_;focus first|omega|rfl|assumption|exact⟨_,rfl,rfl⟩|(simp;omega)|(simp;done)))
  ·refine au (Jp g.fBody (by omega)) ?_;simp -implicitDefEqProofs (disch:=omega) only[go_sem]<;>(repeat(with_reducible refine And.intro ?_ ?_;focus first|omega|rfl|assumption|exact⟨_,rfl,rfl⟩|(simp;omega)|(simp;done)));exact ay (by unfold gL;rw[h1,h3,h4,if_neg h5,bg (show g.bQ.length<=4 by omega),bg (show g.aO.length=0 by omega)];rfl)
  ·exact ay (by unfold gL;rw[if_neg h5,aI (show ¬g.aO.length=0 by omega)];simp)
theorem Ug(g:bA)(hsz:g.sz<=4194304):aT prog 96 [g.v] (.c (.d (.b (gL g)))):=fun S=>by
 have hs:=bA.sum g
 have hT:∀t∈g.bQ,t.sz<=4194304:=fun t ht=>by have:=Om ht;omega
 have hV:∀s∈g.aO,s.length<=4194304:=fun s h=>by have:=mG h;omega
 refine zcx [.tmp 2] func96 ntmps96 ?_;simp -implicitDefEqProofs (disch:=omega) only[go_sem];refine au (fB g.fName (by omega)) ?_;simp -implicitDefEqProofs (disch:=omega) only[go_sem]<;>(repeat(with_reducible refine And.intro ?_ ?_;focus first|omega|rfl|assumption|exact⟨_,rfl,rfl⟩|(simp;omega)|(simp;done)))
 with_reducible refine aj (fun hb=> ?_) (fun hb=> ?_)<;>have h:=hb<;>(try simp only[wf_preprocess] at h)<;>simp -implicitDefEqProofs (disch:=omega) only[go_sem,hb]<;>(repeat(with_reducible refine And.intro ?_ ?_;focus first|omega|rfl|assumption|exact⟨_,rfl,rfl⟩|(simp;omega)|(simp;done)))
 ·exact ay (by unfold gL;rw[h];rfl)
 have h1:=h
 with_reducible refine aj (fun hb=> ?_) (fun hb=> ?_)<;>have h:=hb<;>(try simp only[wf_preprocess] at h)<;>simp -implicitDefEqProofs (disch:=omega) only[go_sem,hb]<;>(repeat(with_reducible refine And.intro ?_ ?_;focus first|omega|rfl|assumption|exact⟨_,rfl,rfl⟩|(simp;omega)|(simp;done)))
 ·exact ay (by unfold gL;rw[aI (show ¬g.bQ.length<=4 by omega)];simp)
 have h2:=h
 (repeat(with_reducible refine And.intro ?_ ?_;focus first|omega|rfl|assumption|exact⟨_,rfl,rfl⟩|(simp;omega)|(simp;done)))
 refine au (Iw g.bQ Ca (by omega) hT (by decide)) ?_;simp -implicitDefEqProofs (disch:=omega) only[go_sem]
 with_reducible refine aj (fun hb=> ?_) (fun hb=> ?_)<;>have h:=hb<;>(try simp only[wf_preprocess] at h)<;>simp -implicitDefEqProofs (disch:=omega) only[go_sem,hb]<;>(repeat(with_reducible refine And.intro ?_ ?_;focus first|omega|rfl|assumption|exact⟨_,rfl,rfl⟩|(simp;omega)|(simp;done)))
 ·exact ay (by unfold gL;rw[h];simp)
 have h3:=h
 (repeat(with_reducible refine And.intro ?_ ?_;focus first|omega|rfl|assumption|exact⟨_,rfl,rfl⟩|(simp;omega)|(simp;done)))
 refine au (nP g.eZ Ca (by omega) (by decide)) ?_;simp -implicitDefEqProofs (disch:=omega) only[go_sem]
 with_reducible refine aj (fun hb=> ?_) (fun hb=> ?_)<;>have h:=hb<;>(try simp only[wf_preprocess] at h)<;>simp -implicitDefEqProofs (disch:=omega) only[go_sem,hb]<;>(repeat(with_reducible refine And.intro ?_ ?_;focus first|omega|rfl|assumption|exact⟨_,rfl,rfl⟩|(simp;omega)|(simp;done)))
 ·exact ay (by unfold gL;rw[h];simp)
 have h4:=h
 with_reducible refine aj (fun hb=> ?_) (fun hb=> ?_)<;>have h:=hb<;>(try simp only[wf_preprocess] at h)<;>simp -implicitDefEqProofs (disch:=omega) only[go_sem,hb]<;>(repeat(with_reducible refine And.intro ?_ ?_;focus first|omega|rfl|assumption|exact⟨_,rfl,rfl⟩|(simp;omega)|(simp;done)))
 ·have h5:¬g.j4=true:=by rw[h];simp
  with_reducible refine aj (fun hb=> ?_) (fun hb=> ?_)<;>have h:=hb<;>(try simp only[wf_preprocess] at h)<;>simp -implicitDefEqProofs (disch:=omega) only[go_sem,hb]<;>(repeat(with_reducible refine And.intro ?_ ?_;focus first|omega|rfl|assumption|exact⟨_,rfl,rfl⟩|(simp;omega)|(simp;done)))
  ·refine au (QM g.fBody (by omega)) ?_;simp -implicitDefEqProofs (disch:=omega) only[go_sem]<;>(repeat(with_reducible refine And.intro ?_ ?_;focus first|omega|rfl|assumption|exact⟨_,rfl,rfl⟩|(simp;omega)|(simp;done)));exact ay (by unfold gL;rw[h1,h3,h4,if_neg h5,bg (show g.bQ.length<=4 by omega),bg (show g.aO.length=0 by omega)];rfl)
  ·exact ay (by unfold gL;rw[if_neg h5,aI (show ¬g.aO.length=0 by omega)];simp)
 ·have h5:=h;refine au (iQ g.aO 5 (by omega) hV) ?_;simp -implicitDefEqProofs (disch:=omega) only[go_sem]<;>(repeat(with_reducible refine And.intro ?_ ?_;focus first|omega|rfl|assumption|exact⟨_,rfl,rfl⟩|(simp;omega)|(simp;done)))
  with_reducible refine aj (fun hb=> ?_) (fun hb=> ?_)<;>have h:=hb<;>(try simp only[wf_preprocess] at h)<;>simp -implicitDefEqProofs (disch:=omega) only[go_sem,hb]<;>(repeat(with_reducible refine And.intro ?_ ?_;focus first|omega|rfl|assumption|exact⟨_,rfl,rfl⟩|(simp;omega)|(simp;done)))
  ·have h6:=h;rw[aq] at h6
   with_reducible refine aj (fun hb=> ?_) (fun hb=> ?_)<;>have h:=hb<;>(try simp only[wf_preprocess] at h)<;>simp -implicitDefEqProofs (disch:=omega) only[go_sem,hb]<;>(repeat(with_reducible refine And.intro ?_ ?_;focus first|omega|rfl|assumption|exact⟨_,rfl,rfl⟩|(simp;omega)|(simp;done)))
   ·refine au (zC g.aO g.fBody (by omega) (by omega)) ?_;simp -implicitDefEqProofs (disch:=omega) only[go_sem]<;>(repeat(with_reducible refine And.intro ?_ ?_;focus first|omega|rfl|assumption|exact⟨_,rfl,rfl⟩|(simp;omega)|(simp;done)));exact ay (by unfold gL nu;rw[h1,h3,h4,if_pos h5,h6.2,bg (show g.bQ.length<=4 by omega),bg (show g.aO.length=g.bQ.length+1 by omega)];rfl)
   ·exact ay (by unfold gL;rw[if_pos h5,aI (show ¬g.aO.length=g.bQ.length+1 by omega)];simp)
  ·refine ay ?_;by_cases h7:g.aO.length=g.bQ.length+1
   ·rw[bg (by omega),bj] at h
    unfold gL nu;rw[if_pos h5,h];simp
   ·unfold gL;rw[if_pos h5,aI h7];simp
def ny(f:bJ):List (List UInt8):=f.bQ.map bY.fName
def FQ(f:bJ):List ah:=f.bQ.map bY.fType
noncomputable def lG(f:bJ):Bool:=
 validName f.fName&&(dec (f.aO.length<=3)&&(fU f.aO&&(mR f.aO f.fI&&(dec (f.bQ.length<=5)&&(ji f.aO (FQ f)&&(fH f.aO f.eZ&&nu (ny f) f.fBody))))))
theorem bJ.sum(x:bJ):x.fName.length+(x.aO.length+aH (x.aO.map encS))+(x.fI.length+aH (x.fI.map bR.enc))+(x.bQ.length+aH (x.bQ.map bY.enc))+x.eZ.sz+x.fBody.sz<=x.sz:=by
 simp only[bJ.sz,bJ.aB,aY,bG,D.sz,al,ah.cB,ak.cB];omega
theorem bY.sum(x:bY):x.fName.length+x.fType.sz<=x.sz:=by
 simp only[bY.sz,bY.aB,aY,bG,D.sz,al,ah.cB];omega
theorem Oo{xs:List bY}{t:bY}(h:t∈xs):t.sz<=aH (xs.map bY.enc):=dK (bd h)
theorem Jq(ps:List bY)(hl:ps.length<=1073741823):aT prog 67 [.c (.d (.sl (ps.map bY.enc)))] (.c (.d (.sl ((ps.map bY.fName).map encS)))):=fun S=>by
 refine zcx [.tmp 2] func67 ntmps67 ?_;simp -implicitDefEqProofs (disch:=omega) only[go_sem]
 (repeat(with_reducible refine And.intro ?_ ?_;focus first|omega|rfl|assumption|exact⟨_,rfl,rfl⟩|(simp;omega)|(simp;done)))
 refine jL 3 1 [] rfl (by simp) ?_
 refine bn (ι:=Nat×List (List UInt8)) zmx rfl [3,7,8,9] (fun y=>[.c (.bM (0,0) (y.2.map encS)),.c (.d (.sl (ps.map bY.enc))),.c (.d (.i .i64 ps.length)),.c (.d (.i .i64 y.1))]) (fun y=>[.tok 1 (y.2.map encS)]::S)
  (fun y=>y.1<=ps.length/\y.2=(ps.map bY.fName).take y.1) (fun y=>ps.length-y.1) (0,[]) rfl rfl ⟨ao _,rfl⟩ ?_
 rintro⟨i,names⟩ ⟨p1,p2⟩;simp only at p1 p2
 have pl:names.length<=ps.length:=by rw[p2];simp;omega
 simp -implicitDefEqProofs (disch:=omega) only[go_sem]
 with_reducible refine aj (fun hb=> ?_) (fun hb=> ?_)<;>have h:=hb<;>(try simp only[wf_preprocess] at h)<;>simp -implicitDefEqProofs (disch:=omega) only[go_sem,hb]<;>(repeat(with_reducible refine And.intro ?_ ?_;focus first|omega|rfl|assumption|exact⟨_,rfl,rfl⟩|(simp;omega)|(simp;done)))
 ·have hi:i<ps.length:=by omega
  (repeat(with_reducible refine And.intro ?_ ?_;focus first|omega|rfl|assumption|exact⟨_,rfl,rfl⟩|(simp;omega)|(simp;done)))
  rw[show List.map encS names++[[D.s ps[i].fName]]=List.map encS (names++[ps[i].fName]) by simp[encS]];exact dL 1 (by decide) (i+1,names++[ps[i].fName]) (by simp only;omega) rfl rfl rfl rfl ⟨by simp only;omega,by simp only;rw[p2,fC (by simpa using hi)];simp⟩
 ·rw[bi (by simp;omega)] at p2;rw[p2]
theorem Jr(ps:List bY)(hl:ps.length<=1073741823):aT prog 66 [.c (.d (.sl (ps.map bY.enc)))] (.c (.d (.sl ((ps.map bY.fType).map ah.enc)))):=fun S=>by
 refine zcx [.tmp 2] func66 ntmps66 ?_;simp -implicitDefEqProofs (disch:=omega) only[go_sem]
 (repeat(with_reducible refine And.intro ?_ ?_;focus first|omega|rfl|assumption|exact⟨_,rfl,rfl⟩|(simp;omega)|(simp;done)))
 refine jL 3 3 [] rfl (by simp) ?_
 refine bn (ι:=Nat×List ah) zmx rfl [3,7,8,9] (fun y=>[.c (.bM (0,0) (y.2.map ah.enc)),.c (.d (.sl (ps.map bY.enc))),.c (.d (.i .i64 ps.length)),.c (.d (.i .i64 y.1))]) (fun y=>[.tok 3 (y.2.map ah.enc)]::S)
  (fun y=>y.1<=ps.length/\y.2=(ps.map bY.fType).take y.1) (fun y=>ps.length-y.1) (0,[]) rfl rfl ⟨ao _,rfl⟩ ?_
 rintro⟨i,names⟩ ⟨p1,p2⟩;simp only at p1 p2
 have pl:names.length<=ps.length:=by rw[p2];simp;omega
 simp -implicitDefEqProofs (disch:=omega) only[go_sem]
 with_reducible refine aj (fun hb=> ?_) (fun hb=> ?_)<;>have h:=hb<;>(try simp only[wf_preprocess] at h)<;>simp -implicitDefEqProofs (disch:=omega) only[go_sem,hb]<;>(repeat(with_reducible refine And.intro ?_ ?_;focus first|omega|rfl|assumption|exact⟨_,rfl,rfl⟩|(simp;omega)|(simp;done)))
 ·have hi:i<ps.length:=by omega
  (repeat(with_reducible refine And.intro ?_ ?_;focus first|omega|rfl|assumption|exact⟨_,rfl,rfl⟩|(simp;omega)|(simp;done)))
  rw[show List.map ah.enc names++[[D.i .i64 ps[i].fType.aW,D.s ps[i].fType.fName,D.sl (ps[i].fType.fArgs.map ah.enc)]]=List.map ah.enc (names++[ps[i].fType]) by simp[ah.aB]];exact dL 1 (by decide) (i+1,names++[ps[i].fType]) (by simp only;omega) rfl rfl rfl rfl ⟨by simp only;omega,by simp only;rw[p2,fC (by simpa using hi)];simp⟩
 ·rw[bi (by simp;omega)] at p2;rw[p2]
theorem GY(f:bJ)(hsz:f.sz<=4194304):aT prog 37 [f.v] (.c (.d (.b (lG f)))):=fun S=>by
 have hs:=bJ.sum f
 have hV:∀s∈f.aO,s.length<=4194304:=fun s h=>by have:=mG h;omega
 have hW:∀b∈f.fI,b.sz<=4194304:=fun b h=>by have:=Cb h;omega
 have hP:∀p∈f.bQ,p.sz<=4194304:=fun m h=>by have:=Oo h;omega
 have hpt:∀t∈f.bQ.map bY.fType,t.sz<=4194304:=fun t h=>by
  obtain⟨p,hp,e⟩:=cp.1 h;have:=hP p hp;have:=bY.sum p;rw[<-e];omega
 have hpn:∀s∈f.bQ.map bY.fName,s.length<=4194304:=fun t h=>by
  obtain⟨p,hp,e⟩:=cp.1 h;have:=hP p hp;have:=bY.sum p;rw[<-e];omega
 have hpl:(f.bQ.map bY.fName).length=f.bQ.length:=by simp
 have hpl':(f.bQ.map bY.fType).length=f.bQ.length:=by simp
 refine zcx [.tmp 2] func37 ntmps37 ?_;simp -implicitDefEqProofs (disch:=omega) only[go_sem]
 repeat' (first
  |with_reducible refine aj (fun hb=> ?_) (fun hb=> ?_)<;>have h:=hb<;>(try simp only[wf_preprocess] at h)<;>simp -implicitDefEqProofs (disch:=omega) only[go_sem,hb]<;>(repeat(with_reducible refine And.intro ?_ ?_;focus first|omega|rfl|assumption|exact⟨_,rfl,rfl⟩|(simp;omega)|(simp;done)))
  |((with_reducible show dQ _ _ 30 _ _ _ _);refine au (fA f.fName (by omega)) ?_;simp -implicitDefEqProofs (disch:=omega) only[go_sem])
  |((with_reducible show dQ _ _ 31 _ _ _ _);refine au (j5 f.aO (by omega) hV) ?_;simp -implicitDefEqProofs (disch:=omega) only[go_sem])
  |((with_reducible show dQ _ _ 63 _ _ _ _);refine au (Bn f.fI f.aO (by omega) hW (by omega)) ?_;simp -implicitDefEqProofs (disch:=omega) only[go_sem])
  |((with_reducible show dQ _ _ 66 _ _ _ _);refine au (Jr f.bQ (by omega)) ?_;simp -implicitDefEqProofs (disch:=omega) only[go_sem])
  |((with_reducible show dQ _ _ 59 _ _ _ _);refine au (sJ (f.bQ.map bY.fType) f.aO (by omega) hpt (by omega)) ?_;simp -implicitDefEqProofs (disch:=omega) only[go_sem])
  |((with_reducible show dQ _ _ 60 _ _ _ _);refine au (oh f.eZ f.aO (by omega) (by omega)) ?_;simp -implicitDefEqProofs (disch:=omega) only[go_sem])
  |((with_reducible show dQ _ _ 67 _ _ _ _);refine au (Jq f.bQ (by omega)) ?_;simp -implicitDefEqProofs (disch:=omega) only[go_sem])
  |((with_reducible show dQ _ _ 65 _ _ _ _);refine au (Bl (f.bQ.map bY.fName) f.fBody (by omega) hpn (by omega)) ?_;simp -implicitDefEqProofs (disch:=omega) only[go_sem])
  |(refine ay ?_;unfold lG FQ ny;grind [iD,gK,bg,aI]))
theorem GZ(f:bJ)(hsz:f.sz<=4194304):aT prog 74 [f.v] (.c (.d (.b (lG f)))):=fun S=>by
 have hs:=bJ.sum f
 have hV:∀s∈f.aO,s.length<=4194304:=fun s h=>by have:=mG h;omega
 have hW:∀b∈f.fI,b.sz<=4194304:=fun b h=>by have:=Cb h;omega
 have hP:∀p∈f.bQ,p.sz<=4194304:=fun m h=>by have:=Oo h;omega
 have hpn:∀s∈ny f,s.length<=4194304:=fun t h=>by
  obtain⟨p,hp,e⟩:=cp.1 h;have:=hP p hp;have:=bY.sum p;rw[<-e];omega
 have hnl:(ny f).length=f.bQ.length:=by simp[ny]
 have bad:∀i,∀hi:i<f.bQ.length,fH f.aO f.bQ[i].fType=false->V.c (.d (.b false))=V.c (.d (.b (lG f))):=fun i hi h=>ay (by
  have:ji f.aO (FQ f)=false:=cY.2 fun hx=>by
   have:=ax.1 hx f.bQ[i].fType (bd (ac hi));rw[h] at this;cases this
  unfold lG
  rw[this];simp)
 refine zcx [.tmp 2] func74 ntmps74 ?_;simp -implicitDefEqProofs (disch:=omega) only[go_sem]
 (repeat(with_reducible refine And.intro ?_ ?_;focus first|omega|rfl|assumption|exact⟨_,rfl,rfl⟩|(simp;omega)|(simp;done)))
 refine jL 3 1 [] rfl (by simp) ?_
 refine bn (ι:=Nat×List (List UInt8)) zmx rfl [1,3,4] (fun y=>[.c (.ptr (0,0) 0),.c (.bM (0,1) (y.2.map encS)),.c (.d (.i .i64 y.1))]) (fun y=>[.box (f.enc.map .d),.tok 1 (y.2.map encS)]::S)
  (fun y=>y.1<=f.bQ.length/\y.2=(ny f).take y.1/\∀j,∀hj:j<f.bQ.length,j<y.1->fH f.aO f.bQ[j].fType=true) (fun y=>f.bQ.length-y.1) (0,[]) rfl ?_ ⟨ao _,rfl,fun j _ h=>by simp only at h;omega⟩ ?_
 ·simp -implicitDefEqProofs (disch:=omega) only[go_sem]
 rintro⟨i,names⟩ ⟨p1,p2,p3⟩;simp only at p1 p2 p3
 have pl:names.length<=f.bQ.length:=by rw[p2];simp[ny];omega
 simp -implicitDefEqProofs (disch:=omega) only[go_sem]
 with_reducible refine aj (fun hb=> ?_) (fun hb=> ?_)<;>have h:=hb<;>(try simp only[wf_preprocess] at h)<;>simp -implicitDefEqProofs (disch:=omega) only[go_sem,hb]<;>(repeat(with_reducible refine And.intro ?_ ?_;focus first|omega|rfl|assumption|exact⟨_,rfl,rfl⟩|(simp;omega)|(simp;done)))
 ·have hi:i<f.bQ.length:=by omega
  have hp:=hP _ (ac hi);have hps:=bY.sum f.bQ[i]
  (repeat(with_reducible refine And.intro ?_ ?_;focus first|omega|rfl|assumption|exact⟨_,rfl,rfl⟩|(simp;omega)|(simp;done)))
  refine au (nP f.bQ[i].fType f.aO (by omega) (by omega)) ?_;simp -implicitDefEqProofs (disch:=omega) only[go_sem]<;>(repeat(with_reducible refine And.intro ?_ ?_;focus first|omega|rfl|assumption|exact⟨_,rfl,rfl⟩|(simp;omega)|(simp;done)))
  with_reducible refine aj (fun hb=> ?_) (fun hb=> ?_)<;>have h:=hb<;>(try simp only[wf_preprocess] at h)<;>simp -implicitDefEqProofs (disch:=omega) only[go_sem,hb]<;>(repeat(with_reducible refine And.intro ?_ ?_;focus first|omega|rfl|assumption|exact⟨_,rfl,rfl⟩|(simp;omega)|(simp;done)))
  ·exact bad i hi h
  have k3:=h
  (repeat(with_reducible refine And.intro ?_ ?_;focus first|omega|rfl|assumption|exact⟨_,rfl,rfl⟩|(simp;omega)|(simp;done)))
  rw[show List.map encS names++[[D.s f.bQ[i].fName]]=List.map encS (names++[f.bQ[i].fName]) by simp[encS]]
  exact bU (i+1,names++[f.bQ[i].fName]) (by simp only;omega) rfl rfl ⟨by simp only;omega,by simp only;rw[p2,fC (by simpa [ny] using hi)];simp[ny],fun j hj hji=>by
   simp only at hji;by_cases e:j=i
   ·subst e;exact k3
   ·exact p3 j hj (by omega)⟩
 have hi:i=f.bQ.length:=by omega
 have hn:names=ny f:=by rw[p2,bi (by simp[ny];omega)]
 have hall:ji f.aO (FQ f)=true:=ax.2 fun c hc=>by
  obtain⟨p,hp,e⟩:=cp.1 hc;obtain⟨j,hj,e'⟩:=bm hp;rw[<-e,<-e'];exact p3 j hj (by omega)
 clear p2 p3 bad;subst hn
 repeat' (first
  |with_reducible refine aj (fun hb=> ?_) (fun hb=> ?_)<;>have h:=hb<;>(try simp only[wf_preprocess] at h)<;>simp -implicitDefEqProofs (disch:=omega) only[go_sem,hb]<;>(repeat(with_reducible refine And.intro ?_ ?_;focus first|omega|rfl|assumption|exact⟨_,rfl,rfl⟩|(simp;omega)|(simp;done)))
  |((with_reducible show dQ _ _ 42 _ _ _ _);refine au (fB f.fName (by omega)) ?_;simp -implicitDefEqProofs (disch:=omega) only[go_sem])
  |((with_reducible show dQ _ _ 43 _ _ _ _);refine au (iQ f.aO 3 (by omega) hV) ?_;simp -implicitDefEqProofs (disch:=omega) only[go_sem])
  |((with_reducible show dQ _ _ 100 _ _ _ _);refine au (Df f.fI f.aO (by omega) hW (by omega)) ?_;simp -implicitDefEqProofs (disch:=omega) only[go_sem])
  |((with_reducible show dQ _ _ 43 _ _ _ _);refine au (iQ (ny f) 5 (by omega) hpn) ?_;simp -implicitDefEqProofs (disch:=omega) only[go_sem])
  |((with_reducible show dQ _ _ 98 _ _ _ _);refine au (nP f.eZ f.aO (by omega) (by omega)) ?_;simp -implicitDefEqProofs (disch:=omega) only[go_sem])
  |((with_reducible show dQ _ _ 103 _ _ _ _);refine au (zC (ny f) f.fBody (by omega) (by omega)) ?_;simp -implicitDefEqProofs (disch:=omega) only[go_sem])
  |(refine ay ?_;unfold lG nu;grind [iD,gK,bg,aI]))
end Go.Ab