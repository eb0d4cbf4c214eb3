/-
  SEVERAL TEXTS IN ONE (merged by program): contracts and models, each with its own heading.
-/
import Derived.Test.YtlaaknnkeidlbaaGreatDoorPartDmbC
set_option linter.unusedSimpArgs false
set_option linter.unusedVariables false
namespace Go.Ab
def GI(n:Nat):Key->Key
 |(0,j)=>(0,n+j)
 |(l+1,j)=>(l,j)
def C.mg(n:Nat):C->C
 | .d x=>.d x
 | .any=>.any
 | .bI k es=>.bI (GI n k) es
 | .bF es=>.bF es
 | .ptr k off=>.ptr (GI n k) off
 | .nG cs=>.nG cs
 | .mW k i off=>.mW (GI n k) i off
 | .jQ k=>.jQ (GI n k)
 | .fn f caps=>.fn f (caps.map fun x=>(GI n x.1,x.2))
 | .mp k=>.mp (GI n k)
 | .lG m es=>.lG m es
 | .xp k r p=>.xp (GI n k) r p
 | .xq k r p z i off=>.xq (GI n k) r p z i off
def V.mg(n:Nat):V->V
 | .c x=>.c (x.mg n)
 | .agg cs=>.agg (cs.map (C.mg n))
 | .fF xs=>.fF (xs.map fun y=>(y.1,y.2.map (C.mg n)))
 | .any=>.any
def Obj.mg(n:Nat):Obj->Obj
 | .box cs=>.box (cs.map (C.mg n))
 |o=>o
section
variable {P:Program} {w:World} {σ:Nat->Nat} {own bV:List Obj} {Ω:Store} {bo sK:List Value} {bΩ:Hs}
theorem Rm{n:Nat}{o:Obj}{h:Value}{b:Nat}:owns (o.mg n) h b<->owns o h b:=by
 cases o with
 |box cs=>
  cases h with
  |pointer a=>cases a<;>exact Iff.rfl
  |_=>exact Iff.rfl
 |_=>exact Iff.rfl
theorem Fw{k:Key}{o:Obj}(h:bE (own::bV::Ω) k=some o):
 bE ((bV++own.map (Obj.mg bV.length))::Ω) (GI bV.length k)=some (if k.1=0 then o.mg bV.length else o):=by
 obtain⟨l,j⟩:=k
 cases l with
 |zero=>
  rw[bK] at h;show bE _ (0,bV.length+j)=_;rw[bK,List.getElem?_append_right (by omega),show bV.length+j-bV.length=j by omega,List.getElem?_map,h];rfl
 |succ l=>
  rw[cZ] at h;show bE _ (l,j)=some o
  cases l with
  |zero=>
   rw[bK] at h ⊢;rw[List.getElem?_append_left (List.getElem?_eq_some_iff.1 h).1];exact h
  |succ l=>rw[cZ] at h ⊢;exact h
theorem Fx(hl:sK.length=bV.length){k:Key}{h:Value}(e:bE (bo::sK::bΩ) k=some h):bE ((sK++bo)::bΩ) (GI bV.length k)=some h:=by
 obtain⟨l,j⟩:=k
 cases l with
 |zero=>
  rw[bK] at e;show bE _ (0,bV.length+j)=_;rw[bK,List.getElem?_append_right (by omega),show bV.length+j-sK.length=j by omega,e]
 |succ l=>
  rw[cZ] at e;show bE _ (l,j)=some h
  cases l with
  |zero=>
   rw[bK] at e ⊢;rw[List.getElem?_append_left (List.getElem?_eq_some_iff.1 e).1];exact e
  |succ l=>rw[cZ] at e ⊢;exact e
theorem LD(hl:sK.length=bV.length)(hlo:bo.length=own.length){k:Key}{o:Obj}(h:bE ((bV++own.map (Obj.mg bV.length))::Ω) k=some o):
 ∃k0 o0,GI bV.length k0=k/\bE (own::bV::Ω) k0=some o0/\o=(if k0.1=0 then o0.mg bV.length else o0)/\bE ((sK++bo)::bΩ) k=bE (bo::sK::bΩ) k0:=by
 obtain⟨l,j⟩:=k
 cases l with
 |zero=>
  rw[bK] at h;by_cases hj:j<bV.length
  ·rw[List.getElem?_append_left hj] at h;refine⟨(1,j),o,rfl,by rw[cZ,bK];exact h,rfl,?_⟩;rw[bK,cZ,bK,List.getElem?_append_left (by omega)]
  ·rw[List.getElem?_append_right (by omega),List.getElem?_map] at h
   cases hx:own[j-bV.length]? with
   |none=>rw[hx] at h;cases h
   |some x=>
    rw[hx] at h;cases h;refine⟨(0,j-bV.length),x,?_,by rw[bK];exact hx,rfl,?_⟩
    ·show(0,bV.length+(j-bV.length))=(0,j);rw[show bV.length+(j-bV.length)=j by omega]
    ·rw[bK,bK,List.getElem?_append_right (by omega),hl]
 |succ l=>
  rw[cZ] at h;exact⟨(l+2,j),o,rfl,by rw[cZ,cZ];exact h,rfl,by rw[cZ,cZ,cZ]⟩
theorem ze{n:Nat}{k:Key}{o:Obj}:(∀bg es,uS (if k.1=0 then o.mg n else o) bg es->uS o bg es)/\(∀bg es,(if k.1=0 then o.mg n else o)=.fO bg es->o=.fO bg es)/\
 (∀m,(if k.1=0 then o.mg n else o)=.mp m->o=.mp m)/\(∀cs,(if k.1=0 then o.mg n else o)=.box cs->∃cs',o=.box cs')/\(∀rs,(if k.1=0 then o.mg n else o)=.xf rs->o=.xf rs):=by
 by_cases e:k.1=0
 ·simp only[if_pos e];cases o<;>simp[Obj.mg,uS]
 ·simp only[if_neg e];exact⟨fun _ _ h=>h,fun _ _ h=>h,fun _ h=>h,fun cs h=>⟨cs,h⟩,fun _ h=>h⟩
theorem ahY(hl:sK.length=bV.length){c:C}{v:Value}(h:iG w σ (own::bV::Ω) (bo::sK::bΩ) c v):
 iG w σ ((bV++own.map (Obj.mg bV.length))::Ω) ((sK++bo)::bΩ) (c.mg bV.length) v:=by
 cases c with
 |d x=>exact h
 |any=>exact trivial
 |bF es=>exact h
 |nG cs=>exact h
 |lG m es=>exact h
 |xp k r p=>
  obtain⟨o,ho,h2⟩:=h;refine⟨_,Fw ho,fun rs e=> ?_⟩;obtain⟨hh,q1,q2⟩:=h2 rs (ze.2.2.2.2 _ e);exact⟨hh,Fx hl q1,q2⟩
 |xq k r p z i off=>
  obtain⟨o,ho,h2⟩:=h;refine⟨_,Fw ho,fun rs e=> ?_⟩;obtain⟨hh,b,a,n,cap,q1,q2⟩:=h2 rs (ze.2.2.2.2 _ e);exact⟨hh,b,a,n,cap,Fx hl q1,q2⟩
 |bI k es=>
  obtain⟨h1,o,ho,h2⟩:=h;refine⟨h1,_,Fw ho,fun bg es' e=> ?_⟩;obtain⟨q1,q2⟩:=h2 bg es' (ze.1 _ _ e);exact⟨q1,fun e'=>Fx hl (q2 e')⟩
 |ptr k off=>
  obtain⟨o,ho,h2⟩:=h;refine⟨_,Fw ho,fun cs e=> ?_⟩;obtain⟨cs',e'⟩:=ze.2.2.2.1 _ e;obtain⟨b,q1,q2⟩:=h2 cs' e';exact⟨b,Fx hl q1,q2⟩
 |mW k i off=>
  obtain⟨o,ho,h2⟩:=h;refine⟨_,Fw ho,fun bg es e=> ?_⟩;obtain⟨b,n,cap,q1,q2⟩:=h2 bg es (ze.2.1 _ _ e);exact⟨b,n,cap,Fx hl q1,q2⟩
 |jQ k=>
  obtain⟨o,ho,h2⟩:=h;exact⟨_,Fw ho,fun bg es e=>Fx hl (h2 bg es (ze.2.1 _ _ e))⟩
 |mp k=>
  obtain⟨o,ho,h2⟩:=h;exact⟨_,Fw ho,fun m e=>Fx hl (h2 m (ze.2.2.1 _ e))⟩
 |fn f caps=>
  obtain⟨vs,e,hsz,hc⟩:=h;refine⟨vs,e,by rw[hsz,List.length_map],fun j k off hj=> ?_⟩;rw[List.getElem?_map] at hj
  cases hx:caps[j]? with
  |none=>rw[hx] at hj;cases hj
  |some y=>
   rw[hx] at hj;injection hj with hj;injection hj with e1 e2;obtain⟨u,q1,q2,o,q3,q4⟩:=hc j y.1 y.2 hx;refine⟨u,q1,q2,_,by rw[<-e1];exact Fw q3,fun cs e=> ?_⟩;obtain⟨cs',e'⟩:=ze.2.2.2.1 _ e;obtain⟨b,q5,q6⟩:=q4 cs' e';exact⟨b,by rw[<-e1];exact Fx hl q5,by rw[<-e2];exact q6⟩
theorem abB(hl:sK.length=bV.length){cs:List C}{vs:List Value}(h:gu w σ (own::bV::Ω) (bo::sK::bΩ) cs vs):
 gu w σ ((bV++own.map (Obj.mg bV.length))::Ω) ((sK++bo)::bΩ) (cs.map (C.mg bV.length)) vs:=by
 refine⟨by rw[List.length_map];exact h.1,fun j x hj=> ?_⟩;rw[List.getElem?_map] at hj
 cases hx:cs[j]? with
 |none=>rw[hx] at hj;cases hj
 |some y=>
  rw[hx] at hj;cases hj;obtain⟨v,h1,h2,h3⟩:=h.2 j y hx;exact⟨v,h1,ahY hl h2,h3⟩
theorem ar5(hl:sK.length=bV.length){x:V}{v:Value}(h:dM w σ (own::bV::Ω) (bo::sK::bΩ) x v):
 dM w σ ((bV++own.map (Obj.mg bV.length))::Ω) ((sK++bo)::bΩ) (x.mg bV.length) v:=by
 cases x with
 |c x=>exact⟨ahY hl h.1,h.2⟩
 |agg cs=>obtain⟨a,ha,hc⟩:=h;exact⟨a,ha,abB hl hc⟩
 |any=>exact trivial
 |fF xs=>
  obtain⟨a,ha,hlen,hc⟩:=h;refine⟨a,ha,by rw[List.length_map];exact hlen,fun j y hj=> ?_⟩;rw[List.getElem?_map] at hj
  cases hx:xs[j]? with
  |none=>rw[hx] at hj;cases hj
  |some z=>
   rw[hx] at hj;cases hj;obtain⟨u,hu,hr⟩:=hc j z hx;refine⟨u,hu,?_⟩;obtain⟨b,cs⟩:=z
   cases b with
   |true=>obtain⟨a',e,hcs⟩:=hr;exact⟨a',e,abB hl hcs⟩
   |false=>obtain⟨x1,e,hx1,ho⟩:=hr;subst e;exact⟨_,rfl,ahY hl hx1,ho⟩
theorem ZO(hl:sK.length=bV.length):Keep (bV::Ω) (sK::bΩ) ((bV++own.map (Obj.mg bV.length))::Ω) ((sK++bo)::bΩ):=by
 rintro⟨l,j⟩ o h
 cases l with
 |zero=>
  rw[bK] at h;have hj:=(List.getElem?_eq_some_iff.1 h).1;refine⟨o,by rw[bK,List.getElem?_append_left hj];exact h,?_⟩;rw[bK,bK,List.getElem?_append_left (by omega)];exact nC.refl _ _
 |succ l=>
  rw[cZ] at h;exact⟨o,by rw[cZ];exact h,by rw[cZ,cZ];exact nC.refl _ _⟩
theorem ar6(hS:fA w σ (own::bV::Ω) (bo::sK::bΩ)):fA w σ ((bV++own.map (Obj.mg bV.length))::Ω) ((sK++bo)::bΩ):=by
 have hlo:bo.length=own.length:=by
  obtain⟨gr,h1,h2⟩:=hS.shape.2 0 own rfl;simp at h1;rw[h1];exact h2
 have hl:sK.length=bV.length:=by
  obtain⟨gr,h1,h2⟩:=hS.shape.2 1 bV rfl;simp at h1;rw[h1];exact h2
 have hn:eu w σ w σ:=eu.refl _ _;refine⟨fun k o ho=> ?_,fun k k' o o' h h' b e1 e2 e3 e4 e5 e6=> ?_,⟨by have:=hS.shape.1;simpa using this,fun l fr hfr=> ?_⟩,hS.live,hS.wh⟩
 ·obtain⟨k0,o0,hk,ho0,rfl,hh⟩:=LD (bo:=bo) (bΩ:=bΩ) hl hlo ho;obtain⟨h,h1,h2⟩:=hS.obj k0 o0 ho0;refine⟨h,by rw[hh];exact h1,?_⟩;obtain⟨l0,j0⟩:=k0
  cases l0 with
  |zero=>
   subst hk;have h2:gZ w σ (own::bV::Ω) (bo::sK::bΩ) o0 h:=h2;show gZ w σ ((bV++own.map (Obj.mg bV.length))::Ω) ((sK++bo)::bΩ) (o0.mg bV.length) h
   cases o0 with
   |box cs=>
    obtain⟨b,c,t,e,q1,q2,q3⟩:=h2;exact⟨b,c,t,e,q1,q2,abB hl q3⟩
   |dead=>exact trivial
   |tok bg es=>exact h2
   |fO bg es=>exact h2
   |mp m=>exact h2
   |eG n bg es=>exact h2
   |seed n=>exact trivial
   |xf rs=>exact h2
  |succ l0=>
   have hk':k=(l0,j0):=hk.symm;subst hk';have h2:gZ w σ ((bV::Ω).drop l0) ((sK::bΩ).drop l0) o0 h:=h2;exact h2.mono hn ((ZO hl).drop l0) fun _ _=>⟨rfl,rfl⟩
 ·obtain⟨k0,o0,hk,ho0,ho,hh⟩:=LD (bo:=bo) (bΩ:=bΩ) hl hlo e1;obtain⟨k1,o1,hk1,ho1,ho',Jm⟩:=LD (bo:=bo) (bΩ:=bΩ) hl hlo e4;rw[hh] at e2;rw[Jm] at e5
  have b0:owns o0 h b:=by
   rw[ho] at e3;split at e3
   ·rw[Rm] at e3;exact e3
   ·exact e3
  have b1:owns o1 h' b:=by
   rw[ho'] at e6;split at e6
   ·rw[Rm] at e6;exact e6
   ·exact e6
  have:=hS.apart k0 k1 o0 o1 h h' b ho0 e2 b0 ho1 e5 b1;rw[<-hk,<-hk1,this]
 ·cases l with
  |zero=>
   simp at hfr;exact⟨_,rfl,by rw[<-hfr];simp[hl,hlo]⟩
  |succ l=>exact hS.shape.2 (l+2) fr (by simpa using hfr)
theorem anF(hS:fA w σ (own::bV::Ω) (bo::sK::bΩ)){b:Nat}(h:Own ((bV++own.map (Obj.mg bV.length))::Ω) ((sK++bo)::bΩ) b):Own (own::bV::Ω) (bo::sK::bΩ) b:=by
 have hlo:bo.length=own.length:=by
  obtain⟨gr,h1,h2⟩:=hS.shape.2 0 own rfl;simp at h1;rw[h1];exact h2
 have hl:sK.length=bV.length:=by
  obtain⟨gr,h1,h2⟩:=hS.shape.2 1 bV rfl;simp at h1;rw[h1];exact h2
 obtain⟨k,o,hv,e1,e2,e3⟩:=h;obtain⟨k0,o0,hk,ho0,ho,hh⟩:=LD (bo:=bo) (bΩ:=bΩ) hl hlo e1;rw[hh] at e2;refine⟨k0,o0,hv,ho0,e2,?_⟩;rw[ho] at e3;split at e3
 ·rw[Rm] at e3;exact e3
 ·exact e3
end
def Wl(P:Program)(rs:List ResultVar)(post:V->Store->Prop)(e:Exit)(s:St):Prop:=
 match e with
 | .normal| .ret=>(qO P rs s).1/\match s.st with
   |own::bV::Ω=>post ((qO P rs s).2.mg bV.length) ((bV++own.map (Obj.mg bV.length))::Ω)
   |_=>False
 |_=>False
section
variable {P:Program} {N:Nat} {s:St}
theorem Sy{f:FuncId}{fn:Func}{c:Code}{args:List V}{bV:List Obj}{Ω:Store}{post:V->Store->Prop}(hf:P.funcs[f]? =some fn)(hb:fn.body=some c)(hn:(fn.name== "runtime.NumGoroutine")=false)
 (hl:args.length<=fn.ntmps)(h:AW P fn.ntmps c (Wl P fn.results.toList post) ⟨mO (args.map (V.up 1)) 0,[]::bV::Ω⟩):bX P f args (bV::Ω) post:=by
 refine⟨⟨fn,hf,hn,by simp[hb]⟩,fun w σ β vs hS hargs=> ?_⟩;refine calls_of_wp hf hb ?_;have hlen:vs.length=args.length:=hargs.1.symm
 have Vy:kQ fn.ntmps ⟨mO (args.map (V.up 1)) 0,[]::bV::Ω⟩ {tmps:=vs.toArray++Array.replicate (fn.ntmps-vs.toArray.size) undef,defers:=[]} w σ ([]::β):=by
  refine⟨by simp;omega,rfl,hS.up1,fun t=> ?_⟩;show dM w σ ([]::bV::Ω) ([]::β) (look (mO (args.map (V.up 1)) 0) t) _;rw[Dq,if_pos (Nat.zero_le _),Nat.sub_zero,List.getElem?_map]
  cases ha:args[t]? with
  |none=>exact trivial
  |some x=>
   obtain⟨v,hv,hr⟩:=hargs.2 t x ha;have ht:=(List.getElem?_eq_some_iff.1 hv).1
   have:(vs.toArray++Array.replicate (fn.ntmps-vs.toArray.size) undef).getD t undef=v:=by
    rw[Array.getD_eq_getD_getElem?,Array.getElem?_append_left (by simpa using ht)];simp[hv]
   rw[this];exact Lp (S:=[]::bV::Ω) (β:=[]::β) 1 hr
 refine wp_mono (h _ w σ ([]::β) Vy) ?_;rintro e a' w' ⟨s',σ',β',hR,hst,hkp,hq⟩
 have main:((qO P fn.results.toList s').1/\match s'.st with
  |own::bV::Ω=>post ((qO P fn.results.toList s').2.mg bV.length) ((bV++own.map (Obj.mg bV.length))::Ω)
  |_=>False)->
   a'.defers=[]/\∃v,(results fn a'.tmps).run P w'=.ok v w'/\∃v_1 r S' σ' β',Ending.returned v=Ending.returned v_1/\fA w' σ' S' β'/\Keep (bV::Ω) β S' β'/\Step (bV::Ω) β σ w S' β' σ' w'/\dM w' σ' S' β' r v_1/\post r S':=by
  rintro⟨q1,q2⟩;obtain⟨v,hv,hrep⟩:=JR (fn:=fn) hR q1;obtain⟨tm,st⟩:=s';simp only at q2;split at q2
  ·rename_i own abC Ω1;obtain⟨bo,bΩ',rfl,hlo⟩:=frames hR
   cases bΩ' with
   |nil=>have:=hR.S.shape.1;simp at this
   |cons bo1 bΩ1=>
    have hl1:bo1.length=abC.length:=by
     obtain⟨gr,h1,h2⟩:=hR.S.shape.2 1 abC rfl;simp at h1;rw[h1];exact h2
    have AB:Keep (bV::Ω) β (abC::Ω1) (bo1::bΩ1):=hkp;have hst':Step ([]::bV::Ω) ([]::β) σ w (own::abC::Ω1) (bo::bo1::bΩ1) σ' w':=hst;exact⟨hR.defers,v,hv,v,_,_,σ',_,rfl,ar6 hR.S,AB.trans (ZO hl1),⟨hst'.size,hst'.os,hst'.output,fun b hb ho=>hst'.far b hb (fun x=>ho (DU x)),hst'.near,fun b hb=>(hst'.own b (anF hR.S hb)).imp DU id⟩,ar5 hl1 hrep,q2⟩
  ·exact q2.elim
 cases e with
 |normal=>exact main hq
 |ret=>exact main hq
 |_=>exact hq.elim
def Wm(P:Program)(rs:List ResultVar)(post:V->Store->Prop)(s:St)(r:R):Prop:=r.1/\match s.st with
 |own::bV::Ω=>post (r.2.mg bV.length) ((bV++own.map (Obj.mg bV.length))::Ω)
 |_=>False
@[congr] theorem apY {rs:List ResultVar} {post:V->Store->Prop} {s s':St} {r r':R} (h1:s=s') (h2:r=r'):Wm P rs post s r=Wm P rs post s' r':=by rw[h1,h2]
theorem ahZ{rs:List ResultVar}{post:V->Store->Prop}{tm:List (Nat×V)}{S:Store}:Wl P rs post .ret ⟨tm,S⟩=Wm P rs post ⟨tm,S⟩ (qO P rs ⟨tm,S⟩):=rfl
theorem YJ{rs:List ResultVar}{post:V->Store->Prop}{tm:List (Nat×V)}{S:Store}:Wl P rs post .normal ⟨tm,S⟩=Wm P rs post ⟨tm,S⟩ (qO P rs ⟨tm,S⟩):=rfl
theorem aln{rs:List ResultVar}{post:V->Store->Prop}{tm:List (Nat×V)}{own bV:List Obj}{Ω:Store}{p:Prop}{v:V}:
 Wm P rs post ⟨tm,own::bV::Ω⟩ (p,v)=(p/\post (v.mg bV.length) ((bV++own.map (Obj.mg bV.length))::Ω)):=rfl
theorem J6{f:FuncId}{fn:Func}{c:Code}{args:List V}{bV:List Obj}{Ω:Store}{post:V->Store->Prop}{rs:List ResultVar}(gI:P.follows .mixedOrders=true)(hf:P.funcs[f]? =some fn)(hN:fn.ntmps=N)
 (hb:fn.body=some c) (hn:(fn.name== "runtime.NumGoroutine")=false) (hr:fn.results.toList=rs) (hl:Nat.ble args.length N=true) (hok:codeOk N c=true)
 (h:CW P N c (Wl P rs post) ⟨mO (args.map (V.up 1)) 0,[]::bV::Ω⟩):bX P f args (bV::Ω) post:=by
 subst hN;subst hr;exact Sy hf hb hn (Nat.le_of_ble_eq_true hl) (kE gI c _ _ hok h)
theorem mgK_0{n j:Nat}:GI n (0,j)=(0,n+j):=rfl
theorem mgK_1{n l j:Nat}:GI n (1+l,j)=(l,j):=by rw[Nat.add_comm];rfl
end
attribute [go_sem ↓] ahZ YJ
attribute [go_sem] aln V.mg C.mg Obj.mg mgK_0 mgK_1
end Go.Ab