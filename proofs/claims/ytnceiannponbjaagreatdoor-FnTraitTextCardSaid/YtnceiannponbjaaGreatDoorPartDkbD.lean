/-
  SEVERAL TEXTS IN ONE (merged by program): contracts and models, each with its own heading.
-/
import Derived.Test.YtnceiannponbjaaGreatDoorPartDkbC
set_option linter.unusedSimpArgs false
set_option linter.unusedVariables false
namespace Go.Ab
def Ba(n:Nat):Key->Key
 |(0,j)=>(0,n+j)
 |(l+1,j)=>(l,j)
def C.mg(n:Nat):C->C
 | .d x=>.d x
 | .any=>.any
 | .bG k es=>.bG (Ba n k) es
 | .bA es=>.bA es
 | .ptr k off=>.ptr (Ba n k) off
 | .kH cs=>.kH cs
 | .jV k i off=>.jV (Ba n k) i off
 | .gK k=>.gK (Ba n k)
 | .fn f caps=>.fn f (caps.map fun x=>(Ba n x.1,x.2))
 | .mp k=>.mp (Ba n k)
 | .jm m es=>.jm m es
 | .xp k r p=>.xp (Ba n k) r p
 | .xq k r p z i off=>.xq (Ba n k) r p z i off
def V.mg(n:Nat):V->V
 | .c x=>.c (x.mg n)
 | .agg cs=>.agg (cs.map (C.mg n))
 | .eG xs=>.eG (xs.map fun y=>(y.1,y.2.map (C.mg n)))
 | .any=>.any
def Obj.mg(n:Nat):Obj->Obj
 | .box cs=>.box (cs.map (C.mg n))
 |o=>o
section
variable {P:Program} {w:World} {σ:Nat->Nat} {own bg:List Obj} {Ω:Store} {bo nU:List Value} {bΩ:Hs}
theorem KA{n:Nat}{o:Obj}{h:Value}{b:Nat}:owns (o.mg n) h b<->owns o h b:=by
 cases o with
 |box cs=>
  cases h with
  |pointer a=>cases a<;>exact Iff.rfl
  |_=>exact Iff.rfl
 |_=>exact Iff.rfl
theorem zM{k:Key}{o:Obj}(h:aR (own::bg::Ω) k=some o):
 aR ((bg++own.map (Obj.mg bg.length))::Ω) (Ba bg.length k)=some (if k.1=0 then o.mg bg.length else o):=by
 obtain⟨l,j⟩:=k
 cases l with
 |zero=>
  rw[aY] at h;show aR _ (0,bg.length+j)=_;rw[aY,List.getElem?_append_right (by omega),show bg.length+j-bg.length=j by omega,List.getElem?_map,h];rfl
 |succ l=>
  rw[bF] at h;show aR _ (l,j)=some o
  cases l with
  |zero=>
   rw[aY] at h ⊢;rw[List.getElem?_append_left (List.getElem?_eq_some_iff.1 h).1];exact h
  |succ l=>rw[bF] at h ⊢;exact h
theorem zN(hl:nU.length=bg.length){k:Key}{h:Value}(e:aR (bo::nU::bΩ) k=some h):aR ((nU++bo)::bΩ) (Ba bg.length k)=some h:=by
 obtain⟨l,j⟩:=k
 cases l with
 |zero=>
  rw[aY] at e;show aR _ (0,bg.length+j)=_;rw[aY,List.getElem?_append_right (by omega),show bg.length+j-nU.length=j by omega,e]
 |succ l=>
  rw[bF] at e;show aR _ (l,j)=some h
  cases l with
  |zero=>
   rw[aY] at e ⊢;rw[List.getElem?_append_left (List.getElem?_eq_some_iff.1 e).1];exact e
  |succ l=>rw[bF] at e ⊢;exact e
theorem E5(hl:nU.length=bg.length)(hlo:bo.length=own.length){k:Key}{o:Obj}(h:aR ((bg++own.map (Obj.mg bg.length))::Ω) k=some o):
 ∃k0 o0,Ba bg.length k0=k/\aR (own::bg::Ω) k0=some o0/\o=(if k0.1=0 then o0.mg bg.length else o0)/\aR ((nU++bo)::bΩ) k=aR (bo::nU::bΩ) k0:=by
 obtain⟨l,j⟩:=k
 cases l with
 |zero=>
  rw[aY] at h;by_cases hj:j<bg.length
  ·rw[List.getElem?_append_left hj] at h;refine⟨(1,j),o,rfl,by rw[bF,aY];exact h,rfl,?_⟩;rw[aY,bF,aY,List.getElem?_append_left (by omega)]
  ·rw[List.getElem?_append_right (by omega),List.getElem?_map] at h
   cases hx:own[j-bg.length]? with
   |none=>rw[hx] at h;cases h
   |some x=>
    rw[hx] at h;cases h;refine⟨(0,j-bg.length),x,?_,by rw[aY];exact hx,rfl,?_⟩
    ·show(0,bg.length+(j-bg.length))=(0,j);rw[show bg.length+(j-bg.length)=j by omega]
    ·rw[aY,aY,List.getElem?_append_right (by omega),hl]
 |succ l=>
  rw[bF] at h;exact⟨(l+2,j),o,rfl,by rw[bF,bF];exact h,rfl,by rw[bF,bF,bF]⟩
theorem tQ{n:Nat}{k:Key}{o:Obj}:(∀aN es,pR (if k.1=0 then o.mg n else o) aN es->pR o aN es)/\(∀aN es,(if k.1=0 then o.mg n else o)=.dL aN es->o=.dL aN es)/\
 (∀m,(if k.1=0 then o.mg n else o)=.mp m->o=.mp m)/\(∀cs,(if k.1=0 then o.mg n else o)=.box cs->∃cs',o=.box cs')/\(∀rs,(if k.1=0 then o.mg n else o)=.xf rs->o=.xf rs):=by
 by_cases e:k.1=0
 ·simp only[if_pos e];cases o<;>simp[Obj.mg,pR]
 ·simp only[if_neg e];exact⟨fun _ _ h=>h,fun _ _ h=>h,fun _ h=>h,fun cs h=>⟨cs,h⟩,fun _ h=>h⟩
theorem aaZ(hl:nU.length=bg.length){c:C}{v:Value}(h:fK w σ (own::bg::Ω) (bo::nU::bΩ) c v):
 fK w σ ((bg++own.map (Obj.mg bg.length))::Ω) ((nU++bo)::bΩ) (c.mg bg.length) v:=by
 cases c with
 |d x=>exact h
 |any=>exact trivial
 |bA es=>exact h
 |kH cs=>exact h
 |jm m es=>exact h
 |xp k r p=>
  obtain⟨o,ho,h2⟩:=h;refine⟨_,zM ho,fun rs e=> ?_⟩;obtain⟨hh,q1,q2⟩:=h2 rs (tQ.2.2.2.2 _ e);exact⟨hh,zN hl q1,q2⟩
 |xq k r p z i off=>
  obtain⟨o,ho,h2⟩:=h;refine⟨_,zM ho,fun rs e=> ?_⟩;obtain⟨hh,b,a,n,cap,q1,q2⟩:=h2 rs (tQ.2.2.2.2 _ e);exact⟨hh,b,a,n,cap,zN hl q1,q2⟩
 |bG k es=>
  obtain⟨h1,o,ho,h2⟩:=h;refine⟨h1,_,zM ho,fun aN es' e=> ?_⟩;obtain⟨q1,q2⟩:=h2 aN es' (tQ.1 _ _ e);exact⟨q1,fun e'=>zN hl (q2 e')⟩
 |ptr k off=>
  obtain⟨o,ho,h2⟩:=h;refine⟨_,zM ho,fun cs e=> ?_⟩;obtain⟨cs',e'⟩:=tQ.2.2.2.1 _ e;obtain⟨b,q1,q2⟩:=h2 cs' e';exact⟨b,zN hl q1,q2⟩
 |jV k i off=>
  obtain⟨o,ho,h2⟩:=h;refine⟨_,zM ho,fun aN es e=> ?_⟩;obtain⟨b,n,cap,q1,q2⟩:=h2 aN es (tQ.2.1 _ _ e);exact⟨b,n,cap,zN hl q1,q2⟩
 |gK k=>
  obtain⟨o,ho,h2⟩:=h;exact⟨_,zM ho,fun aN es e=>zN hl (h2 aN es (tQ.2.1 _ _ e))⟩
 |mp k=>
  obtain⟨o,ho,h2⟩:=h;exact⟨_,zM ho,fun m e=>zN hl (h2 m (tQ.2.2.1 _ e))⟩
 |fn f caps=>
  obtain⟨vs,e,hsz,hc⟩:=h;refine⟨vs,e,by rw[hsz,List.length_map],fun j k off hj=> ?_⟩;rw[List.getElem?_map] at hj
  cases hx:caps[j]? with
  |none=>rw[hx] at hj;cases hj
  |some y=>
   rw[hx] at hj;injection hj with hj;injection hj with e1 e2;obtain⟨u,q1,q2,o,q3,q4⟩:=hc j y.1 y.2 hx;refine⟨u,q1,q2,_,by rw[<-e1];exact zM q3,fun cs e=> ?_⟩;obtain⟨cs',e'⟩:=tQ.2.2.2.1 _ e;obtain⟨b,q5,q6⟩:=q4 cs' e';exact⟨b,by rw[<-e1];exact zN hl q5,by rw[<-e2];exact q6⟩
theorem UO(hl:nU.length=bg.length){cs:List C}{vs:List Value}(h:d9 w σ (own::bg::Ω) (bo::nU::bΩ) cs vs):
 d9 w σ ((bg++own.map (Obj.mg bg.length))::Ω) ((nU++bo)::bΩ) (cs.map (C.mg bg.length)) vs:=by
 refine⟨by rw[List.length_map];exact h.1,fun j x hj=> ?_⟩;rw[List.getElem?_map] at hj
 cases hx:cs[j]? with
 |none=>rw[hx] at hj;cases hj
 |some y=>
  rw[hx] at hj;cases hj;obtain⟨v,h1,h2,h3⟩:=h.2 j y hx;exact⟨v,h1,aaZ hl h2,h3⟩
theorem aiK(hl:nU.length=bg.length){x:V}{v:Value}(h:bV w σ (own::bg::Ω) (bo::nU::bΩ) x v):
 bV w σ ((bg++own.map (Obj.mg bg.length))::Ω) ((nU++bo)::bΩ) (x.mg bg.length) v:=by
 cases x with
 |c x=>exact⟨aaZ hl h.1,h.2⟩
 |agg cs=>obtain⟨a,ha,hc⟩:=h;exact⟨a,ha,UO hl hc⟩
 |any=>exact trivial
 |eG xs=>
  obtain⟨a,ha,hlen,hc⟩:=h;refine⟨a,ha,by rw[List.length_map];exact hlen,fun j y hj=> ?_⟩;rw[List.getElem?_map] at hj
  cases hx:xs[j]? with
  |none=>rw[hx] at hj;cases hj
  |some z=>
   rw[hx] at hj;cases hj;obtain⟨u,hu,hr⟩:=hc j z hx;refine⟨u,hu,?_⟩;obtain⟨b,cs⟩:=z
   cases b with
   |true=>obtain⟨a',e,hcs⟩:=hr;exact⟨a',e,UO hl hcs⟩
   |false=>obtain⟨x1,e,hx1,ho⟩:=hr;subst e;exact⟨_,rfl,aaZ hl hx1,ho⟩
theorem Sm(hl:nU.length=bg.length):Keep (bg::Ω) (nU::bΩ) ((bg++own.map (Obj.mg bg.length))::Ω) ((nU++bo)::bΩ):=by
 rintro⟨l,j⟩ o h
 cases l with
 |zero=>
  rw[aY] at h;have hj:=(List.getElem?_eq_some_iff.1 h).1;refine⟨o,by rw[aY,List.getElem?_append_left hj];exact h,?_⟩;rw[aY,aY,List.getElem?_append_left (by omega)];exact kF.refl _ _
 |succ l=>
  rw[bF] at h;exact⟨o,by rw[bF];exact h,by rw[bF,bF];exact kF.refl _ _⟩
theorem aiL(hS:dH w σ (own::bg::Ω) (bo::nU::bΩ)):dH w σ ((bg++own.map (Obj.mg bg.length))::Ω) ((nU++bo)::bΩ):=by
 have hlo:bo.length=own.length:=by
  obtain⟨gr,h1,h2⟩:=hS.shape.2 0 own rfl;simp at h1;rw[h1];exact h2
 have hl:nU.length=bg.length:=by
  obtain⟨gr,h1,h2⟩:=hS.shape.2 1 bg rfl;simp at h1;rw[h1];exact h2
 have hn:dM w σ w σ:=dM.refl _ _;refine⟨fun k o ho=> ?_,fun k k' o o' h h' b e1 e2 e3 e4 e5 e6=> ?_,⟨by have:=hS.shape.1;simpa using this,fun l fr hfr=> ?_⟩,hS.live,hS.qI⟩
 ·obtain⟨k0,o0,hk,ho0,rfl,hh⟩:=E5 (bo:=bo) (bΩ:=bΩ) hl hlo ho;obtain⟨h,h1,h2⟩:=hS.obj k0 o0 ho0;refine⟨h,by rw[hh];exact h1,?_⟩;obtain⟨l0,j0⟩:=k0
  cases l0 with
  |zero=>
   subst hk;have h2:fG w σ (own::bg::Ω) (bo::nU::bΩ) o0 h:=h2;show fG w σ ((bg++own.map (Obj.mg bg.length))::Ω) ((nU++bo)::bΩ) (o0.mg bg.length) h
   cases o0 with
   |box cs=>
    obtain⟨b,c,t,e,q1,q2,q3⟩:=h2;exact⟨b,c,t,e,q1,q2,UO hl q3⟩
   |dead=>exact trivial
   |tok aN es=>exact h2
   |dL aN es=>exact h2
   |mp m=>exact h2
   |eD n aN es=>exact h2
   |seed n=>exact trivial
   |xf rs=>exact h2
  |succ l0=>
   have hk':k=(l0,j0):=hk.symm;subst hk';have h2:fG w σ ((bg::Ω).drop l0) ((nU::bΩ).drop l0) o0 h:=h2;exact h2.mono hn ((Sm hl).drop l0) fun _ _=>⟨rfl,rfl⟩
 ·obtain⟨k0,o0,hk,ho0,ho,hh⟩:=E5 (bo:=bo) (bΩ:=bΩ) hl hlo e1;obtain⟨k1,o1,hk1,ho1,ho',CS⟩:=E5 (bo:=bo) (bΩ:=bΩ) hl hlo e4;rw[hh] at e2;rw[CS] at e5
  have b0:owns o0 h b:=by
   rw[ho] at e3;split at e3
   ·rw[KA] at e3;exact e3
   ·exact e3
  have b1:owns o1 h' b:=by
   rw[ho'] at e6;split at e6
   ·rw[KA] at e6;exact e6
   ·exact e6
  have:=hS.apart k0 k1 o0 o1 h h' b ho0 e2 b0 ho1 e5 b1;rw[<-hk,<-hk1,this]
 ·cases l with
  |zero=>
   simp at hfr;exact⟨_,rfl,by rw[<-hfr];simp[hl,hlo]⟩
  |succ l=>exact hS.shape.2 (l+2) fr (by simpa using hfr)
theorem afu(hS:dH w σ (own::bg::Ω) (bo::nU::bΩ)){b:Nat}(h:Own ((bg++own.map (Obj.mg bg.length))::Ω) ((nU++bo)::bΩ) b):Own (own::bg::Ω) (bo::nU::bΩ) b:=by
 have hlo:bo.length=own.length:=by
  obtain⟨gr,h1,h2⟩:=hS.shape.2 0 own rfl;simp at h1;rw[h1];exact h2
 have hl:nU.length=bg.length:=by
  obtain⟨gr,h1,h2⟩:=hS.shape.2 1 bg rfl;simp at h1;rw[h1];exact h2
 obtain⟨k,o,hv,e1,e2,e3⟩:=h;obtain⟨k0,o0,hk,ho0,ho,hh⟩:=E5 (bo:=bo) (bΩ:=bΩ) hl hlo e1;rw[hh] at e2;refine⟨k0,o0,hv,ho0,e2,?_⟩;rw[ho] at e3;split at e3
 ·rw[KA] at e3;exact e3
 ·exact e3
end
def OM(P:Program)(rs:List ResultVar)(post:V->Store->Prop)(e:Exit)(s:St):Prop:=
 match e with
 | .normal| .ret=>(mO P rs s).1/\match s.st with
   |own::bg::Ω=>post ((mO P rs s).2.mg bg.length) ((bg++own.map (Obj.mg bg.length))::Ω)
   |_=>False
 |_=>False
section
variable {P:Program} {N:Nat} {s:St}
theorem Li{f:FuncId}{fn:Func}{c:Code}{args:List V}{bg:List Obj}{Ω:Store}{post:V->Store->Prop}(hf:P.funcs[f]? =some fn)(hb:fn.body=some c)(hn:(fn.name== "runtime.NumGoroutine")=false)
 (hl:args.length<=fn.ntmps)(h:AW P fn.ntmps c (OM P fn.results.toList post) ⟨kG (args.map (V.up 1)) 0,[]::bg::Ω⟩):bD P f args (bg::Ω) post:=by
 refine⟨⟨fn,hf,hn,by simp[hb]⟩,fun w σ β vs hS hargs=> ?_⟩;refine calls_of_wp hf hb ?_;have hlen:vs.length=args.length:=hargs.1.symm
 have NZ:jc fn.ntmps ⟨kG (args.map (V.up 1)) 0,[]::bg::Ω⟩ {tmps:=vs.toArray++Array.replicate (fn.ntmps-vs.toArray.size) undef,defers:=[]} w σ ([]::β):=by
  refine⟨by simp;omega,rfl,hS.up1,fun t=> ?_⟩;show bV w σ ([]::bg::Ω) ([]::β) (look (kG (args.map (V.up 1)) 0) t) _;rw[yc,if_pos (Nat.zero_le _),Nat.sub_zero,List.getElem?_map]
  cases ha:args[t]? with
  |none=>exact trivial
  |some x=>
   obtain⟨v,hv,hr⟩:=hargs.2 t x ha;have ht:=(List.getElem?_eq_some_iff.1 hv).1
   have:(vs.toArray++Array.replicate (fn.ntmps-vs.toArray.size) undef).getD t undef=v:=by
    rw[Array.getD_eq_getD_getElem?,Array.getElem?_append_left (by simpa using ht)];simp[hv]
   rw[this];exact ER (S:=[]::bg::Ω) (β:=[]::β) 1 hr
 refine wp_mono (h _ w σ ([]::β) NZ) ?_;rintro e a' w' ⟨s',σ',β',hR,hst,hkp,hq⟩
 have main:((mO P fn.results.toList s').1/\match s'.st with
  |own::bg::Ω=>post ((mO P fn.results.toList s').2.mg bg.length) ((bg++own.map (Obj.mg bg.length))::Ω)
  |_=>False)->
   a'.defers=[]/\∃v,(results fn a'.tmps).run P w'=.ok v w'/\∃v_1 r S' σ' β',Ending.returned v=Ending.returned v_1/\dH w' σ' S' β'/\Keep (bg::Ω) β S' β'/\Step (bg::Ω) β σ w S' β' σ' w'/\bV w' σ' S' β' r v_1/\post r S':=by
  rintro⟨q1,q2⟩;obtain⟨v,hv,hrep⟩:=Dr (fn:=fn) hR q1;obtain⟨tm,st⟩:=s';simp only at q2;split at q2
  ·rename_i own UQ Ω1;obtain⟨bo,bΩ',rfl,hlo⟩:=frames hR
   cases bΩ' with
   |nil=>have:=hR.S.shape.1;simp at this
   |cons bo1 bΩ1=>
    have hl1:bo1.length=UQ.length:=by
     obtain⟨gr,h1,h2⟩:=hR.S.shape.2 1 UQ rfl;simp at h1;rw[h1];exact h2
    have vF:Keep (bg::Ω) β (UQ::Ω1) (bo1::bΩ1):=hkp;have hst':Step ([]::bg::Ω) ([]::β) σ w (own::UQ::Ω1) (bo::bo1::bΩ1) σ' w':=hst;exact⟨hR.defers,v,hv,v,_,_,σ',_,rfl,aiL hR.S,vF.trans (Sm hl1),⟨hst'.size,hst'.os,hst'.output,fun b hb ho=>hst'.far b hb (fun x=>ho (yE x)),hst'.near,fun b hb=>(hst'.own b (afu hR.S hb)).imp yE id⟩,aiK hl1 hrep,q2⟩
  ·exact q2.elim
 cases e with
 |normal=>exact main hq
 |ret=>exact main hq
 |_=>exact hq.elim
def OO(P:Program)(rs:List ResultVar)(post:V->Store->Prop)(s:St)(r:R):Prop:=r.1/\match s.st with
 |own::bg::Ω=>post (r.2.mg bg.length) ((bg++own.map (Obj.mg bg.length))::Ω)
 |_=>False
@[congr] theorem ahe {rs:List ResultVar} {post:V->Store->Prop} {s s':St} {r r':R} (h1:s=s') (h2:r=r'):OO P rs post s r=OO P rs post s' r':=by rw[h1,h2]
theorem aa0{rs:List ResultVar}{post:V->Store->Prop}{tm:List (Nat×V)}{S:Store}:OM P rs post .ret ⟨tm,S⟩=OO P rs post ⟨tm,S⟩ (mO P rs ⟨tm,S⟩):=rfl
theorem Q5{rs:List ResultVar}{post:V->Store->Prop}{tm:List (Nat×V)}{S:Store}:OM P rs post .normal ⟨tm,S⟩=OO P rs post ⟨tm,S⟩ (mO P rs ⟨tm,S⟩):=rfl
theorem adQ{rs:List ResultVar}{post:V->Store->Prop}{tm:List (Nat×V)}{own bg:List Obj}{Ω:Store}{p:Prop}{v:V}:
 OO P rs post ⟨tm,own::bg::Ω⟩ (p,v)=(p/\post (v.mg bg.length) ((bg++own.map (Obj.mg bg.length))::Ω)):=rfl
theorem DR{f:FuncId}{fn:Func}{c:Code}{args:List V}{bg:List Obj}{Ω:Store}{post:V->Store->Prop}{rs:List ResultVar}(fB:P.follows .mixedOrders=true)(hf:P.funcs[f]? =some fn)(hN:fn.ntmps=N)
 (hb:fn.body=some c) (hn:(fn.name== "runtime.NumGoroutine")=false) (hr:fn.results.toList=rs) (hl:Nat.ble args.length N=true) (hok:codeOk N c=true)
 (h:CW P N c (OM P rs post) ⟨kG (args.map (V.up 1)) 0,[]::bg::Ω⟩):bD P f args (bg::Ω) post:=by
 subst hN;subst hr;exact Li hf hb hn (Nat.le_of_ble_eq_true hl) (jB fB c _ _ hok h)
theorem mgK_0{n j:Nat}:Ba n (0,j)=(0,n+j):=rfl
theorem mgK_1{n l j:Nat}:Ba n (1+l,j)=(l,j):=by rw[Nat.add_comm];rfl
end
attribute [go_sem ↓] aa0 Q5
attribute [go_sem] adQ V.mg C.mg Obj.mg mgK_0 mgK_1
section
variable {P:Program} {N:Nat} {S:Store} {s:St} {tm:List (Nat×V)}
def E8(E:Md)(R:Array Oper)(K:St->Prop)(s:St):Prop:=M0 E R s.tm=true/\K s
@[congr] theorem agq {E:Md} {R:Array Oper} {K:St->Prop} {s s':St} (h2:s=s'):E8 E R K s=E8 E R K s':=by rw[h2]
def xO(P:Program)(N:Nat):Code->(Exit->St->Prop)->St->Prop
 | .seq x y,Q,s=>xO P N x (jq (xO P N y Q) Q) s
 | .region _ R true,Q,s=>qL P (wJ R N) R R.toList s (E8 (wJ R N) R (Q .normal))
 | .region id R false,Q,s=>CW P N (.region id R false) Q s
 | .cond c x y,Q,s=>CW P N (.cond c x y) Q s
 | .block id c,Q,s=>CW P N (.block id c) Q s
 | .exit id,Q,s=>CW P N (.exit id) Q s
 | .ret,Q,s=>CW P N .ret Q s
 | .skip,Q,s=>CW P N .skip Q s
 | .loop c,Q,s=>CW P N (.loop c) Q s
 |_,_,_=>False
theorem adR{x y:Code}{Q:Exit->St->Prop}:xO P N (.seq x y) Q s=xO P N x (jq (xO P N y Q) Q) s:=by rw[xO]
theorem aa1{id:Nat}{l:List Oper}{Q:Exit->St->Prop}:xO P N (.region id ⟨l⟩ true) Q s=qL P (wJ ⟨l⟩ N) ⟨l⟩ l s (E8 (wJ ⟨l⟩ N) ⟨l⟩ (Q .normal)):=by rw[xO]
theorem UR{id:Nat}{l:List Oper}{Q:Exit->St->Prop}:xO P N (.region id ⟨l⟩ false) Q s=CW P N (.region id ⟨l⟩ false) Q s:=by rw[xO]
theorem aa2{c:Operand}{x y:Code}{Q:Exit->St->Prop}:xO P N (.cond c x y) Q s=CW P N (.cond c x y) Q s:=by rw[xO]
theorem adS{Q:Exit->St->Prop}:xO P N .ret Q s=CW P N .ret Q s:=by rw[xO]
theorem aa3{Q:Exit->St->Prop}:xO P N .skip Q s=CW P N .skip Q s:=by rw[xO]
end
attribute [go_sem ↓] adR aa1 UR aa2 adS aa3
section
variable {P:Program} {N:Nat} {S:Store} {s:St} {tm:List (Nat×V)}
def oH(P:Program)(N:Nat):Code->(Exit->St->Prop)->St->Prop
 | .seq x y,Q,s=>oH P N x (jq (oH P N y Q) Q) s
 | .region _ R true,Q,s=>qL P (wJ R N) R R.toList s (E8 (wJ R N) R (Q .normal))
 | .region id R false,Q,s=>CW P N (.region id R false) Q s
 | .cond c x y,Q,s=>yh (ev s.tm c) (oH P N x Q) (oH P N y Q) s
 | .block id c,Q,s=>oH P N c (uM id Q) s
 | .exit id,Q,s=>CW P N (.exit id) Q s
 | .ret,Q,s=>CW P N .ret Q s
 | .skip,Q,s=>CW P N .skip Q s
 | .loop c,Q,s=>CW P N (.loop c) Q s
 |_,_,_=>False
theorem adT{x y:Code}{Q:Exit->St->Prop}:oH P N (.seq x y) Q s=oH P N x (jq (oH P N y Q) Q) s:=by rw[oH]
theorem aa4{id:Nat}{l:List Oper}{Q:Exit->St->Prop}:oH P N (.region id ⟨l⟩ true) Q s=qL P (wJ ⟨l⟩ N) ⟨l⟩ l s (E8 (wJ ⟨l⟩ N) ⟨l⟩ (Q .normal)):=by rw[oH]
theorem UU{id:Nat}{l:List Oper}{Q:Exit->St->Prop}:oH P N (.region id ⟨l⟩ false) Q s=CW P N (.region id ⟨l⟩ false) Q s:=by rw[oH]
theorem aa5{c:Operand}{x y:Code}{Q:Exit->St->Prop}:oH P N (.cond c x y) Q s=yh (ev s.tm c) (oH P N x Q) (oH P N y Q) s:=by rw[oH]
theorem X3{id:Nat}{c:Code}{Q:Exit->St->Prop}:oH P N (.block id c) Q s=oH P N c (uM id Q) s:=by rw[oH]
theorem aa6{id:Nat}{Q:Exit->St->Prop}:oH P N (.exit id) Q s=CW P N (.exit id) Q s:=by rw[oH]
theorem adU{Q:Exit->St->Prop}:oH P N .ret Q s=CW P N .ret Q s:=by rw[oH]
theorem aa7{Q:Exit->St->Prop}:oH P N .skip Q s=CW P N .skip Q s:=by rw[oH]
theorem aa8{c:Code}{Q:Exit->St->Prop}:oH P N (.loop c) Q s=CW P N (.loop c) Q s:=by rw[oH]
end
attribute [go_sem ↓] adT aa4 UU aa5 X3 aa6 adU aa7 aa8
end Go.Ab