/-
  SEVERAL TEXTS IN ONE (merged by program): contracts and models, each with its own heading.
-/
import Derived.Test.YtnceiannponbjaaGreatDoorPartDlbC
set_option linter.unusedSimpArgs false
set_option linter.unusedVariables false
namespace Go.Ab
def Ch(n:Nat):Key->Key
 |(0,j)=>(0,n+j)
 |(l+1,j)=>(l,j)
def C.mg(n:Nat):C->C
 | .d x=>.d x
 | .any=>.any
 | .bK k es=>.bK (Ch n k) es
 | .bE es=>.bE es
 | .ptr k off=>.ptr (Ch n k) off
 | .kT cs=>.kT cs
 | .ku k i off=>.ku (Ch n k) i off
 | .gQ k=>.gQ (Ch n k)
 | .fn f caps=>.fn f (caps.map fun x=>(Ch n x.1,x.2))
 | .mp k=>.mp (Ch n k)
 | .jw m es=>.jw m es
 | .xp k r p=>.xp (Ch n k) r p
 | .xq k r p z i off=>.xq (Ch n k) r p z i off
def V.mg(n:Nat):V->V
 | .c x=>.c (x.mg n)
 | .agg cs=>.agg (cs.map (C.mg n))
 | .eU xs=>.eU (xs.map fun y=>(y.1,y.2.map (C.mg n)))
 | .any=>.any
def Obj.mg(n:Nat):Obj->Obj
 | .box cs=>.box (cs.map (C.mg n))
 |o=>o
section
variable {P:Program} {w:World} {σ:Nat->Nat} {own bD:List Obj} {Ω:Store} {bo oH:List Value} {bΩ:Hs}
theorem LG{n:Nat}{o:Obj}{h:Value}{b:Nat}:owns (o.mg n) h b<->owns o h b:=by
 cases o with
 |box cs=>
  cases h with
  |pointer a=>cases a<;>exact Iff.rfl
  |_=>exact Iff.rfl
 |_=>exact Iff.rfl
theorem AV{k:Key}{o:Obj}(h:aW (own::bD::Ω) k=some o):
 aW ((bD++own.map (Obj.mg bD.length))::Ω) (Ch bD.length k)=some (if k.1=0 then o.mg bD.length else o):=by
 obtain⟨l,j⟩:=k
 cases l with
 |zero=>
  rw[aZ] at h;show aW _ (0,bD.length+j)=_;rw[aZ,List.getElem?_append_right (by omega),show bD.length+j-bD.length=j by omega,List.getElem?_map,h];rfl
 |succ l=>
  rw[bM] at h;show aW _ (l,j)=some o
  cases l with
  |zero=>
   rw[aZ] at h ⊢;rw[List.getElem?_append_left (List.getElem?_eq_some_iff.1 h).1];exact h
  |succ l=>rw[bM] at h ⊢;exact h
theorem AX(hl:oH.length=bD.length){k:Key}{h:Value}(e:aW (bo::oH::bΩ) k=some h):aW ((oH++bo)::bΩ) (Ch bD.length k)=some h:=by
 obtain⟨l,j⟩:=k
 cases l with
 |zero=>
  rw[aZ] at e;show aW _ (0,bD.length+j)=_;rw[aZ,List.getElem?_append_right (by omega),show bD.length+j-oH.length=j by omega,e]
 |succ l=>
  rw[bM] at e;show aW _ (l,j)=some h
  cases l with
  |zero=>
   rw[aZ] at e ⊢;rw[List.getElem?_append_left (List.getElem?_eq_some_iff.1 e).1];exact e
  |succ l=>rw[bM] at e ⊢;exact e
theorem Gm(hl:oH.length=bD.length)(hlo:bo.length=own.length){k:Key}{o:Obj}(h:aW ((bD++own.map (Obj.mg bD.length))::Ω) k=some o):
 ∃k0 o0,Ch bD.length k0=k/\aW (own::bD::Ω) k0=some o0/\o=(if k0.1=0 then o0.mg bD.length else o0)/\aW ((oH++bo)::bΩ) k=aW (bo::oH::bΩ) k0:=by
 obtain⟨l,j⟩:=k
 cases l with
 |zero=>
  rw[aZ] at h;by_cases hj:j<bD.length
  ·rw[List.getElem?_append_left hj] at h;refine⟨(1,j),o,rfl,by rw[bM,aZ];exact h,rfl,?_⟩;rw[aZ,bM,aZ,List.getElem?_append_left (by omega)]
  ·rw[List.getElem?_append_right (by omega),List.getElem?_map] at h
   cases hx:own[j-bD.length]? with
   |none=>rw[hx] at h;cases h
   |some x=>
    rw[hx] at h;cases h;refine⟨(0,j-bD.length),x,?_,by rw[aZ];exact hx,rfl,?_⟩
    ·show(0,bD.length+(j-bD.length))=(0,j);rw[show bD.length+(j-bD.length)=j by omega]
    ·rw[aZ,aZ,List.getElem?_append_right (by omega),hl]
 |succ l=>
  rw[bM] at h;exact⟨(l+2,j),o,rfl,by rw[bM,bM];exact h,rfl,by rw[bM,bM,bM]⟩
theorem uX{n:Nat}{k:Key}{o:Obj}:(∀aQ es,qA (if k.1=0 then o.mg n else o) aQ es->qA o aQ es)/\(∀aQ es,(if k.1=0 then o.mg n else o)=.dN aQ es->o=.dN aQ es)/\
 (∀m,(if k.1=0 then o.mg n else o)=.mp m->o=.mp m)/\(∀cs,(if k.1=0 then o.mg n else o)=.box cs->∃cs',o=.box cs')/\(∀rs,(if k.1=0 then o.mg n else o)=.xf rs->o=.xf rs):=by
 by_cases e:k.1=0
 ·simp only[if_pos e];cases o<;>simp[Obj.mg,qA]
 ·simp only[if_neg e];exact⟨fun _ _ h=>h,fun _ _ h=>h,fun _ h=>h,fun cs h=>⟨cs,h⟩,fun _ h=>h⟩
theorem abV(hl:oH.length=bD.length){c:C}{v:Value}(h:fT w σ (own::bD::Ω) (bo::oH::bΩ) c v):
 fT w σ ((bD++own.map (Obj.mg bD.length))::Ω) ((oH++bo)::bΩ) (c.mg bD.length) v:=by
 cases c with
 |d x=>exact h
 |any=>exact trivial
 |bE es=>exact h
 |kT cs=>exact h
 |jw m es=>exact h
 |xp k r p=>
  obtain⟨o,ho,h2⟩:=h;refine⟨_,AV ho,fun rs e=> ?_⟩;obtain⟨hh,q1,q2⟩:=h2 rs (uX.2.2.2.2 _ e);exact⟨hh,AX hl q1,q2⟩
 |xq k r p z i off=>
  obtain⟨o,ho,h2⟩:=h;refine⟨_,AV ho,fun rs e=> ?_⟩;obtain⟨hh,b,a,n,cap,q1,q2⟩:=h2 rs (uX.2.2.2.2 _ e);exact⟨hh,b,a,n,cap,AX hl q1,q2⟩
 |bK k es=>
  obtain⟨h1,o,ho,h2⟩:=h;refine⟨h1,_,AV ho,fun aQ es' e=> ?_⟩;obtain⟨q1,q2⟩:=h2 aQ es' (uX.1 _ _ e);exact⟨q1,fun e'=>AX hl (q2 e')⟩
 |ptr k off=>
  obtain⟨o,ho,h2⟩:=h;refine⟨_,AV ho,fun cs e=> ?_⟩;obtain⟨cs',e'⟩:=uX.2.2.2.1 _ e;obtain⟨b,q1,q2⟩:=h2 cs' e';exact⟨b,AX hl q1,q2⟩
 |ku k i off=>
  obtain⟨o,ho,h2⟩:=h;refine⟨_,AV ho,fun aQ es e=> ?_⟩;obtain⟨b,n,cap,q1,q2⟩:=h2 aQ es (uX.2.1 _ _ e);exact⟨b,n,cap,AX hl q1,q2⟩
 |gQ k=>
  obtain⟨o,ho,h2⟩:=h;exact⟨_,AV ho,fun aQ es e=>AX hl (h2 aQ es (uX.2.1 _ _ e))⟩
 |mp k=>
  obtain⟨o,ho,h2⟩:=h;exact⟨_,AV ho,fun m e=>AX hl (h2 m (uX.2.2.1 _ e))⟩
 |fn f caps=>
  obtain⟨vs,e,hsz,hc⟩:=h;refine⟨vs,e,by rw[hsz,List.length_map],fun j k off hj=> ?_⟩;rw[List.getElem?_map] at hj
  cases hx:caps[j]? with
  |none=>rw[hx] at hj;cases hj
  |some y=>
   rw[hx] at hj;injection hj with hj;injection hj with e1 e2;obtain⟨u,q1,q2,o,q3,q4⟩:=hc j y.1 y.2 hx;refine⟨u,q1,q2,_,by rw[<-e1];exact AV q3,fun cs e=> ?_⟩;obtain⟨cs',e'⟩:=uX.2.2.2.1 _ e;obtain⟨b,q5,q6⟩:=q4 cs' e';exact⟨b,by rw[<-e1];exact AX hl q5,by rw[<-e2];exact q6⟩
theorem VZ(hl:oH.length=bD.length){cs:List C}{vs:List Value}(h:eX w σ (own::bD::Ω) (bo::oH::bΩ) cs vs):
 eX w σ ((bD++own.map (Obj.mg bD.length))::Ω) ((oH++bo)::bΩ) (cs.map (C.mg bD.length)) vs:=by
 refine⟨by rw[List.length_map];exact h.1,fun j x hj=> ?_⟩;rw[List.getElem?_map] at hj
 cases hx:cs[j]? with
 |none=>rw[hx] at hj;cases hj
 |some y=>
  rw[hx] at hj;cases hj;obtain⟨v,h1,h2,h3⟩:=h.2 j y hx;exact⟨v,h1,abV hl h2,h3⟩
theorem ajC(hl:oH.length=bD.length){x:V}{v:Value}(h:cB w σ (own::bD::Ω) (bo::oH::bΩ) x v):
 cB w σ ((bD++own.map (Obj.mg bD.length))::Ω) ((oH++bo)::bΩ) (x.mg bD.length) v:=by
 cases x with
 |c x=>exact⟨abV hl h.1,h.2⟩
 |agg cs=>obtain⟨a,ha,hc⟩:=h;exact⟨a,ha,VZ hl hc⟩
 |any=>exact trivial
 |eU xs=>
  obtain⟨a,ha,hlen,hc⟩:=h;refine⟨a,ha,by rw[List.length_map];exact hlen,fun j y hj=> ?_⟩;rw[List.getElem?_map] at hj
  cases hx:xs[j]? with
  |none=>rw[hx] at hj;cases hj
  |some z=>
   rw[hx] at hj;cases hj;obtain⟨u,hu,hr⟩:=hc j z hx;refine⟨u,hu,?_⟩;obtain⟨b,cs⟩:=z
   cases b with
   |true=>obtain⟨a',e,hcs⟩:=hr;exact⟨a',e,VZ hl hcs⟩
   |false=>obtain⟨x1,e,hx1,ho⟩:=hr;subst e;exact⟨_,rfl,abV hl hx1,ho⟩
theorem TT(hl:oH.length=bD.length):Keep (bD::Ω) (oH::bΩ) ((bD++own.map (Obj.mg bD.length))::Ω) ((oH++bo)::bΩ):=by
 rintro⟨l,j⟩ o h
 cases l with
 |zero=>
  rw[aZ] at h;have hj:=(List.getElem?_eq_some_iff.1 h).1;refine⟨o,by rw[aZ,List.getElem?_append_left hj];exact h,?_⟩;rw[aZ,aZ,List.getElem?_append_left (by omega)];exact kQ.refl _ _
 |succ l=>
  rw[bM] at h;exact⟨o,by rw[bM];exact h,by rw[bM,bM];exact kQ.refl _ _⟩
theorem ajD(hS:dL w σ (own::bD::Ω) (bo::oH::bΩ)):dL w σ ((bD++own.map (Obj.mg bD.length))::Ω) ((oH++bo)::bΩ):=by
 have hlo:bo.length=own.length:=by
  obtain⟨gr,h1,h2⟩:=hS.shape.2 0 own rfl;simp at h1;rw[h1];exact h2
 have hl:oH.length=bD.length:=by
  obtain⟨gr,h1,h2⟩:=hS.shape.2 1 bD rfl;simp at h1;rw[h1];exact h2
 have hn:dQ w σ w σ:=dQ.refl _ _;refine⟨fun k o ho=> ?_,fun k k' o o' h h' b e1 e2 e3 e4 e5 e6=> ?_,⟨by have:=hS.shape.1;simpa using this,fun l fr hfr=> ?_⟩,hS.live,hS.rH⟩
 ·obtain⟨k0,o0,hk,ho0,rfl,hh⟩:=Gm (bo:=bo) (bΩ:=bΩ) hl hlo ho;obtain⟨h,h1,h2⟩:=hS.obj k0 o0 ho0;refine⟨h,by rw[hh];exact h1,?_⟩;obtain⟨l0,j0⟩:=k0
  cases l0 with
  |zero=>
   subst hk;have h2:fM w σ (own::bD::Ω) (bo::oH::bΩ) o0 h:=h2;show fM w σ ((bD++own.map (Obj.mg bD.length))::Ω) ((oH++bo)::bΩ) (o0.mg bD.length) h
   cases o0 with
   |box cs=>
    obtain⟨b,c,t,e,q1,q2,q3⟩:=h2;exact⟨b,c,t,e,q1,q2,VZ hl q3⟩
   |dead=>exact trivial
   |tok aQ es=>exact h2
   |dN aQ es=>exact h2
   |mp m=>exact h2
   |dY n aQ es=>exact h2
   |seed n=>exact trivial
   |xf rs=>exact h2
  |succ l0=>
   have hk':k=(l0,j0):=hk.symm;subst hk';have h2:fM w σ ((bD::Ω).drop l0) ((oH::bΩ).drop l0) o0 h:=h2;exact h2.mono hn ((TT hl).drop l0) fun _ _=>⟨rfl,rfl⟩
 ·obtain⟨k0,o0,hk,ho0,ho,hh⟩:=Gm (bo:=bo) (bΩ:=bΩ) hl hlo e1;obtain⟨k1,o1,hk1,ho1,ho',D8⟩:=Gm (bo:=bo) (bΩ:=bΩ) hl hlo e4;rw[hh] at e2;rw[D8] at e5
  have b0:owns o0 h b:=by
   rw[ho] at e3;split at e3
   ·rw[LG] at e3;exact e3
   ·exact e3
  have b1:owns o1 h' b:=by
   rw[ho'] at e6;split at e6
   ·rw[LG] at e6;exact e6
   ·exact e6
  have:=hS.apart k0 k1 o0 o1 h h' b ho0 e2 b0 ho1 e5 b1;rw[<-hk,<-hk1,this]
 ·cases l with
  |zero=>
   simp at hfr;exact⟨_,rfl,by rw[<-hfr];simp[hl,hlo]⟩
  |succ l=>exact hS.shape.2 (l+2) fr (by simpa using hfr)
theorem agp(hS:dL w σ (own::bD::Ω) (bo::oH::bΩ)){b:Nat}(h:Own ((bD++own.map (Obj.mg bD.length))::Ω) ((oH++bo)::bΩ) b):Own (own::bD::Ω) (bo::oH::bΩ) b:=by
 have hlo:bo.length=own.length:=by
  obtain⟨gr,h1,h2⟩:=hS.shape.2 0 own rfl;simp at h1;rw[h1];exact h2
 have hl:oH.length=bD.length:=by
  obtain⟨gr,h1,h2⟩:=hS.shape.2 1 bD rfl;simp at h1;rw[h1];exact h2
 obtain⟨k,o,hv,e1,e2,e3⟩:=h;obtain⟨k0,o0,hk,ho0,ho,hh⟩:=Gm (bo:=bo) (bΩ:=bΩ) hl hlo e1;rw[hh] at e2;refine⟨k0,o0,hv,ho0,e2,?_⟩;rw[ho] at e3;split at e3
 ·rw[LG] at e3;exact e3
 ·exact e3
end
def P7(P:Program)(rs:List ResultVar)(post:V->Store->Prop)(e:Exit)(s:St):Prop:=
 match e with
 | .normal| .ret=>(nE P rs s).1/\match s.st with
   |own::bD::Ω=>post ((nE P rs s).2.mg bD.length) ((bD++own.map (Obj.mg bD.length))::Ω)
   |_=>False
 |_=>False
section
variable {P:Program} {N:Nat} {s:St}
theorem MC{f:FuncId}{fn:Func}{c:Code}{args:List V}{bD:List Obj}{Ω:Store}{post:V->Store->Prop}(hf:P.funcs[f]? =some fn)(hb:fn.body=some c)(hn:(fn.name== "runtime.NumGoroutine")=false)
 (hl:args.length<=fn.ntmps)(h:AW P fn.ntmps c (P7 P fn.results.toList post) ⟨jZ (args.map (V.up 1)) 0,[]::bD::Ω⟩):bJ P f args (bD::Ω) post:=by
 refine⟨⟨fn,hf,hn,by simp[hb]⟩,fun w σ β vs hS hargs=> ?_⟩;refine calls_of_wp hf hb ?_;have hlen:vs.length=args.length:=hargs.1.symm
 have Pb:jg fn.ntmps ⟨jZ (args.map (V.up 1)) 0,[]::bD::Ω⟩ {tmps:=vs.toArray++Array.replicate (fn.ntmps-vs.toArray.size) undef,defers:=[]} w σ ([]::β):=by
  refine⟨by simp;omega,rfl,hS.up1,fun t=> ?_⟩;show cB w σ ([]::bD::Ω) ([]::β) (look (jZ (args.map (V.up 1)) 0) t) _;rw[za,if_pos (Nat.zero_le _),Nat.sub_zero,List.getElem?_map]
  cases ha:args[t]? with
  |none=>exact trivial
  |some x=>
   obtain⟨v,hv,hr⟩:=hargs.2 t x ha;have ht:=(List.getElem?_eq_some_iff.1 hv).1
   have:(vs.toArray++Array.replicate (fn.ntmps-vs.toArray.size) undef).getD t undef=v:=by
    rw[Array.getD_eq_getD_getElem?,Array.getElem?_append_left (by simpa using ht)];simp[hv]
   rw[this];exact Gb (S:=[]::bD::Ω) (β:=[]::β) 1 hr
 refine wp_mono (h _ w σ ([]::β) Pb) ?_;rintro e a' w' ⟨s',σ',β',hR,hst,hkp,hq⟩
 have main:((nE P fn.results.toList s').1/\match s'.st with
  |own::bD::Ω=>post ((nE P fn.results.toList s').2.mg bD.length) ((bD++own.map (Obj.mg bD.length))::Ω)
  |_=>False)->
   a'.defers=[]/\∃v,(results fn a'.tmps).run P w'=.ok v w'/\∃v_1 r S' σ' β',Ending.returned v=Ending.returned v_1/\dL w' σ' S' β'/\Keep (bD::Ω) β S' β'/\Step (bD::Ω) β σ w S' β' σ' w'/\cB w' σ' S' β' r v_1/\post r S':=by
  rintro⟨q1,q2⟩;obtain⟨v,hv,hrep⟩:=EB (fn:=fn) hR q1;obtain⟨tm,st⟩:=s';simp only at q2;split at q2
  ·rename_i own V3 Ω1;obtain⟨bo,bΩ',rfl,hlo⟩:=frames hR
   cases bΩ' with
   |nil=>have:=hR.S.shape.1;simp at this
   |cons bo1 bΩ1=>
    have hl1:bo1.length=V3.length:=by
     obtain⟨gr,h1,h2⟩:=hR.S.shape.2 1 V3 rfl;simp at h1;rw[h1];exact h2
    have wQ:Keep (bD::Ω) β (V3::Ω1) (bo1::bΩ1):=hkp;have hst':Step ([]::bD::Ω) ([]::β) σ w (own::V3::Ω1) (bo::bo1::bΩ1) σ' w':=hst;exact⟨hR.defers,v,hv,v,_,_,σ',_,rfl,ajD hR.S,wQ.trans (TT hl1),⟨hst'.size,hst'.os,hst'.output,fun b hb ho=>hst'.far b hb (fun x=>ho (zw x)),hst'.near,fun b hb=>(hst'.own b (agp hR.S hb)).imp zw id⟩,ajC hl1 hrep,q2⟩
  ·exact q2.elim
 cases e with
 |normal=>exact main hq
 |ret=>exact main hq
 |_=>exact hq.elim
def P8(P:Program)(rs:List ResultVar)(post:V->Store->Prop)(s:St)(r:R):Prop:=r.1/\match s.st with
 |own::bD::Ω=>post (r.2.mg bD.length) ((bD++own.map (Obj.mg bD.length))::Ω)
 |_=>False
@[congr] theorem ah8 {rs:List ResultVar} {post:V->Store->Prop} {s s':St} {r r':R} (h1:s=s') (h2:r=r'):P8 P rs post s r=P8 P rs post s' r':=by rw[h1,h2]
theorem abW{rs:List ResultVar}{post:V->Store->Prop}{tm:List (Nat×V)}{S:Store}:P7 P rs post .ret ⟨tm,S⟩=P8 P rs post ⟨tm,S⟩ (nE P rs ⟨tm,S⟩):=rfl
theorem Sz{rs:List ResultVar}{post:V->Store->Prop}{tm:List (Nat×V)}{S:Store}:P7 P rs post .normal ⟨tm,S⟩=P8 P rs post ⟨tm,S⟩ (nE P rs ⟨tm,S⟩):=rfl
theorem aeL{rs:List ResultVar}{post:V->Store->Prop}{tm:List (Nat×V)}{own bD:List Obj}{Ω:Store}{p:Prop}{v:V}:
 P8 P rs post ⟨tm,own::bD::Ω⟩ (p,v)=(p/\post (v.mg bD.length) ((bD++own.map (Obj.mg bD.length))::Ω)):=rfl
theorem EO{f:FuncId}{fn:Func}{c:Code}{args:List V}{bD:List Obj}{Ω:Store}{post:V->Store->Prop}{rs:List ResultVar}(fA:P.follows .mixedOrders=true)(hf:P.funcs[f]? =some fn)(hN:fn.ntmps=N)
 (hb:fn.body=some c) (hn:(fn.name== "runtime.NumGoroutine")=false) (hr:fn.results.toList=rs) (hl:Nat.ble args.length N=true) (hok:codeOk N c=true)
 (h:CW P N c (P7 P rs post) ⟨jZ (args.map (V.up 1)) 0,[]::bD::Ω⟩):bJ P f args (bD::Ω) post:=by
 subst hN;subst hr;exact MC hf hb hn (Nat.le_of_ble_eq_true hl) (iY fA c _ _ hok h)
theorem mgK_0{n j:Nat}:Ch n (0,j)=(0,n+j):=rfl
theorem mgK_1{n l j:Nat}:Ch n (1+l,j)=(l,j):=by rw[Nat.add_comm];rfl
end
attribute [go_sem ↓] abW Sz
attribute [go_sem] aeL V.mg C.mg Obj.mg mgK_0 mgK_1
section
variable {P:Program} {N:Nat} {S:Store} {s:St} {tm:List (Nat×V)}
def Gn(E:Md)(R:Array Oper)(K:St->Prop)(s:St):Prop:=Oc E R s.tm=true/\K s
@[congr] theorem ahl {E:Md} {R:Array Oper} {K:St->Prop} {s s':St} (h2:s=s'):Gn E R K s=Gn E R K s':=by rw[h2]
def yX(P:Program)(N:Nat):Code->(Exit->St->Prop)->St->Prop
 | .seq x y,Q,s=>yX P N x (jy (yX P N y Q) Q) s
 | .region _ R true,Q,s=>rO P (xZ R N) R R.toList s (Gn (xZ R N) R (Q .normal))
 | .region id R false,Q,s=>CW P N (.region id R false) Q s
 | .cond c x y,Q,s=>CW P N (.cond c x y) Q s
 | .block id c,Q,s=>CW P N (.block id c) Q s
 | .exit id,Q,s=>CW P N (.exit id) Q s
 | .ret,Q,s=>CW P N .ret Q s
 | .skip,Q,s=>CW P N .skip Q s
 | .loop c,Q,s=>CW P N (.loop c) Q s
 |_,_,_=>False
theorem aeM{x y:Code}{Q:Exit->St->Prop}:yX P N (.seq x y) Q s=yX P N x (jy (yX P N y Q) Q) s:=by rw[yX]
theorem abX{id:Nat}{l:List Oper}{Q:Exit->St->Prop}:yX P N (.region id ⟨l⟩ true) Q s=rO P (xZ ⟨l⟩ N) ⟨l⟩ l s (Gn (xZ ⟨l⟩ N) ⟨l⟩ (Q .normal)):=by rw[yX]
theorem V4{id:Nat}{l:List Oper}{Q:Exit->St->Prop}:yX P N (.region id ⟨l⟩ false) Q s=CW P N (.region id ⟨l⟩ false) Q s:=by rw[yX]
theorem abY{c:Operand}{x y:Code}{Q:Exit->St->Prop}:yX P N (.cond c x y) Q s=CW P N (.cond c x y) Q s:=by rw[yX]
theorem aeN{Q:Exit->St->Prop}:yX P N .ret Q s=CW P N .ret Q s:=by rw[yX]
theorem abZ{Q:Exit->St->Prop}:yX P N .skip Q s=CW P N .skip Q s:=by rw[yX]
end
attribute [go_sem ↓] aeM abX V4 abY aeN abZ
section
variable {P:Program} {N:Nat} {S:Store} {s:St} {tm:List (Nat×V)}
def pK(P:Program)(N:Nat):Code->(Exit->St->Prop)->St->Prop
 | .seq x y,Q,s=>pK P N x (jy (pK P N y Q) Q) s
 | .region _ R true,Q,s=>rO P (xZ R N) R R.toList s (Gn (xZ R N) R (Q .normal))
 | .region id R false,Q,s=>CW P N (.region id R false) Q s
 | .cond c x y,Q,s=>zf (ev s.tm c) (pK P N x Q) (pK P N y Q) s
 | .block id c,Q,s=>pK P N c (vQ id Q) s
 | .exit id,Q,s=>CW P N (.exit id) Q s
 | .ret,Q,s=>CW P N .ret Q s
 | .skip,Q,s=>CW P N .skip Q s
 | .loop c,Q,s=>CW P N (.loop c) Q s
 |_,_,_=>False
theorem aeO{x y:Code}{Q:Exit->St->Prop}:pK P N (.seq x y) Q s=pK P N x (jy (pK P N y Q) Q) s:=by rw[pK]
theorem ab0{id:Nat}{l:List Oper}{Q:Exit->St->Prop}:pK P N (.region id ⟨l⟩ true) Q s=rO P (xZ ⟨l⟩ N) ⟨l⟩ l s (Gn (xZ ⟨l⟩ N) ⟨l⟩ (Q .normal)):=by rw[pK]
theorem V5{id:Nat}{l:List Oper}{Q:Exit->St->Prop}:pK P N (.region id ⟨l⟩ false) Q s=CW P N (.region id ⟨l⟩ false) Q s:=by rw[pK]
theorem ab1{c:Operand}{x y:Code}{Q:Exit->St->Prop}:pK P N (.cond c x y) Q s=zf (ev s.tm c) (pK P N x Q) (pK P N y Q) s:=by rw[pK]
theorem Y0{id:Nat}{c:Code}{Q:Exit->St->Prop}:pK P N (.block id c) Q s=pK P N c (vQ id Q) s:=by rw[pK]
theorem ab2{id:Nat}{Q:Exit->St->Prop}:pK P N (.exit id) Q s=CW P N (.exit id) Q s:=by rw[pK]
theorem aeP{Q:Exit->St->Prop}:pK P N .ret Q s=CW P N .ret Q s:=by rw[pK]
theorem ab3{Q:Exit->St->Prop}:pK P N .skip Q s=CW P N .skip Q s:=by rw[pK]
theorem ab4{c:Code}{Q:Exit->St->Prop}:pK P N (.loop c) Q s=CW P N (.loop c) Q s:=by rw[pK]
end
attribute [go_sem ↓] aeO ab0 V5 ab1 Y0 ab2 aeP ab3 ab4
end Go.Ab