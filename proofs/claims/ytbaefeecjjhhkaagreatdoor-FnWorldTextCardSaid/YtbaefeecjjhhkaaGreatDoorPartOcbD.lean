/-
  SEVERAL TEXTS IN ONE (merged by program): contracts and models, each with its own heading.
-/
import Derived.Test.YtbaefeecjjhhkaaGreatDoorPartOcbC
set_option linter.unusedSimpArgs false
set_option linter.unusedVariables false
namespace Go.Ab
def Gz(n:Nat):Key->Key
 |(0,j)=>(0,n+j)
 |(l+1,j)=>(l,j)
def C.mg(n:Nat):C->C
 | .d x=>.d x
 | .any=>.any
 | .bB k es=>.bB (Gz n k) es
 | .bn es=>.bn es
 | .ptr k off=>.ptr (Gz n k) off
 | .nK cs=>.nK cs
 | .nL k i off=>.nL (Gz n k) i off
 | .mD k=>.mD (Gz n k)
 | .fn f caps=>.fn f (caps.map fun x=>(Gz n x.1,x.2))
 | .mp k=>.mp (Gz n k)
 | .lZ m es=>.lZ m es
 | .xp k r p=>.xp (Gz n k) r p
 | .xq k r p z i off=>.xq (Gz n k) r p z i off
def V.mg(n:Nat):V->V
 | .c x=>.c (x.mg n)
 | .agg cs=>.agg (cs.map (C.mg n))
 | .dN xs=>.dN (xs.map fun y=>(y.1,y.2.map (C.mg n)))
 | .any=>.any
def Obj.mg(n:Nat):Obj->Obj
 | .box cs=>.box (cs.map (C.mg n))
 |o=>o
section
variable {P:Program} {w:World} {σ:Nat->Nat} {own bP:List Obj} {Ω:Store} {bo sG:List Value} {bΩ:Hs}
theorem Q9{n:Nat}{o:Obj}{h:Value}{b:Nat}:owns (o.mg n) h b<->owns o h b:=by
 cases o with
 |box cs=>
  cases h with
  |pointer a=>cases a<;>exact Iff.rfl
  |_=>exact Iff.rfl
 |_=>exact Iff.rfl
theorem Fh{k:Key}{o:Obj}(h:bA (own::bP::Ω) k=some o):
 bA ((bP++own.map (Obj.mg bP.length))::Ω) (Gz bP.length k)=some (if k.1=0 then o.mg bP.length else o):=by
 obtain⟨l,j⟩:=k
 cases l with
 |zero=>
  rw[bR] at h;show bA _ (0,bP.length+j)=_;rw[bR,List.getElem?_append_right (by omega),show bP.length+j-bP.length=j by omega,List.getElem?_map,h];rfl
 |succ l=>
  rw[dA] at h;show bA _ (l,j)=some o
  cases l with
  |zero=>
   rw[bR] at h ⊢;rw[List.getElem?_append_left (List.getElem?_eq_some_iff.1 h).1];exact h
  |succ l=>rw[dA] at h ⊢;exact h
theorem Fj(hl:sG.length=bP.length){k:Key}{h:Value}(e:bA (bo::sG::bΩ) k=some h):bA ((sG++bo)::bΩ) (Gz bP.length k)=some h:=by
 obtain⟨l,j⟩:=k
 cases l with
 |zero=>
  rw[bR] at e;show bA _ (0,bP.length+j)=_;rw[bR,List.getElem?_append_right (by omega),show bP.length+j-sG.length=j by omega,e]
 |succ l=>
  rw[dA] at e;show bA _ (l,j)=some h
  cases l with
  |zero=>
   rw[bR] at e ⊢;rw[List.getElem?_append_left (List.getElem?_eq_some_iff.1 e).1];exact e
  |succ l=>rw[dA] at e ⊢;exact e
theorem Ls(hl:sG.length=bP.length)(hlo:bo.length=own.length){k:Key}{o:Obj}(h:bA ((bP++own.map (Obj.mg bP.length))::Ω) k=some o):
 ∃k0 o0,Gz bP.length k0=k/\bA (own::bP::Ω) k0=some o0/\o=(if k0.1=0 then o0.mg bP.length else o0)/\bA ((sG++bo)::bΩ) k=bA (bo::sG::bΩ) k0:=by
 obtain⟨l,j⟩:=k
 cases l with
 |zero=>
  rw[bR] at h;by_cases hj:j<bP.length
  ·rw[List.getElem?_append_left hj] at h;refine⟨(1,j),o,rfl,by rw[dA,bR];exact h,rfl,?_⟩;rw[bR,dA,bR,List.getElem?_append_left (by omega)]
  ·rw[List.getElem?_append_right (by omega),List.getElem?_map] at h
   cases hx:own[j-bP.length]? with
   |none=>rw[hx] at h;cases h
   |some x=>
    rw[hx] at h;cases h;refine⟨(0,j-bP.length),x,?_,by rw[bR];exact hx,rfl,?_⟩
    ·show(0,bP.length+(j-bP.length))=(0,j);rw[show bP.length+(j-bP.length)=j by omega]
    ·rw[bR,bR,List.getElem?_append_right (by omega),hl]
 |succ l=>
  rw[dA] at h;exact⟨(l+2,j),o,rfl,by rw[dA,dA];exact h,rfl,by rw[dA,dA,dA]⟩
theorem yR{n:Nat}{k:Key}{o:Obj}:(∀aW es,uD (if k.1=0 then o.mg n else o) aW es->uD o aW es)/\(∀aW es,(if k.1=0 then o.mg n else o)=.gF aW es->o=.gF aW es)/\
 (∀m,(if k.1=0 then o.mg n else o)=.mp m->o=.mp m)/\(∀cs,(if k.1=0 then o.mg n else o)=.box cs->∃cs',o=.box cs')/\(∀rs,(if k.1=0 then o.mg n else o)=.xf rs->o=.xf rs):=by
 by_cases e:k.1=0
 ·simp only[if_pos e];cases o<;>simp[Obj.mg,uD]
 ·simp only[if_neg e];exact⟨fun _ _ h=>h,fun _ _ h=>h,fun _ h=>h,fun cs h=>⟨cs,h⟩,fun _ h=>h⟩
theorem aib(hl:sG.length=bP.length){c:C}{v:Value}(h:lC w σ (own::bP::Ω) (bo::sG::bΩ) c v):
 lC w σ ((bP++own.map (Obj.mg bP.length))::Ω) ((sG++bo)::bΩ) (c.mg bP.length) v:=by
 cases c with
 |d x=>exact h
 |any=>exact trivial
 |bn es=>exact h
 |nK cs=>exact h
 |lZ m es=>exact h
 |xp k r p=>
  obtain⟨o,ho,h2⟩:=h;refine⟨_,Fh ho,fun rs e=> ?_⟩;obtain⟨hh,q1,q2⟩:=h2 rs (yR.2.2.2.2 _ e);exact⟨hh,Fj hl q1,q2⟩
 |xq k r p z i off=>
  obtain⟨o,ho,h2⟩:=h;refine⟨_,Fh ho,fun rs e=> ?_⟩;obtain⟨hh,b,a,n,cap,q1,q2⟩:=h2 rs (yR.2.2.2.2 _ e);exact⟨hh,b,a,n,cap,Fj hl q1,q2⟩
 |bB k es=>
  obtain⟨h1,o,ho,h2⟩:=h;refine⟨h1,_,Fh ho,fun aW es' e=> ?_⟩;obtain⟨q1,q2⟩:=h2 aW es' (yR.1 _ _ e);exact⟨q1,fun e'=>Fj hl (q2 e')⟩
 |ptr k off=>
  obtain⟨o,ho,h2⟩:=h;refine⟨_,Fh ho,fun cs e=> ?_⟩;obtain⟨cs',e'⟩:=yR.2.2.2.1 _ e;obtain⟨b,q1,q2⟩:=h2 cs' e';exact⟨b,Fj hl q1,q2⟩
 |nL k i off=>
  obtain⟨o,ho,h2⟩:=h;refine⟨_,Fh ho,fun aW es e=> ?_⟩;obtain⟨b,n,cap,q1,q2⟩:=h2 aW es (yR.2.1 _ _ e);exact⟨b,n,cap,Fj hl q1,q2⟩
 |mD k=>
  obtain⟨o,ho,h2⟩:=h;exact⟨_,Fh ho,fun aW es e=>Fj hl (h2 aW es (yR.2.1 _ _ e))⟩
 |mp k=>
  obtain⟨o,ho,h2⟩:=h;exact⟨_,Fh ho,fun m e=>Fj hl (h2 m (yR.2.2.1 _ e))⟩
 |fn f caps=>
  obtain⟨vs,e,hsz,hc⟩:=h;refine⟨vs,e,by rw[hsz,List.length_map],fun j k off hj=> ?_⟩;rw[List.getElem?_map] at hj
  cases hx:caps[j]? with
  |none=>rw[hx] at hj;cases hj
  |some y=>
   rw[hx] at hj;injection hj with hj;injection hj with e1 e2;obtain⟨u,q1,q2,o,q3,q4⟩:=hc j y.1 y.2 hx;refine⟨u,q1,q2,_,by rw[<-e1];exact Fh q3,fun cs e=> ?_⟩;obtain⟨cs',e'⟩:=yR.2.2.2.1 _ e;obtain⟨b,q5,q6⟩:=q4 cs' e';exact⟨b,by rw[<-e1];exact Fj hl q5,by rw[<-e2];exact q6⟩
theorem ab0(hl:sG.length=bP.length){cs:List C}{vs:List Value}(h:gL w σ (own::bP::Ω) (bo::sG::bΩ) cs vs):
 gL w σ ((bP++own.map (Obj.mg bP.length))::Ω) ((sG++bo)::bΩ) (cs.map (C.mg bP.length)) vs:=by
 refine⟨by rw[List.length_map];exact h.1,fun j x hj=> ?_⟩;rw[List.getElem?_map] at hj
 cases hx:cs[j]? with
 |none=>rw[hx] at hj;cases hj
 |some y=>
  rw[hx] at hj;cases hj;obtain⟨v,h1,h2,h3⟩:=h.2 j y hx;exact⟨v,h1,aib hl h2,h3⟩
theorem ars(hl:sG.length=bP.length){x:V}{v:Value}(h:dS w σ (own::bP::Ω) (bo::sG::bΩ) x v):
 dS w σ ((bP++own.map (Obj.mg bP.length))::Ω) ((sG++bo)::bΩ) (x.mg bP.length) v:=by
 cases x with
 |c x=>exact⟨aib hl h.1,h.2⟩
 |agg cs=>obtain⟨a,ha,hc⟩:=h;exact⟨a,ha,ab0 hl hc⟩
 |any=>exact trivial
 |dN xs=>
  obtain⟨a,ha,hlen,hc⟩:=h;refine⟨a,ha,by rw[List.length_map];exact hlen,fun j y hj=> ?_⟩;rw[List.getElem?_map] at hj
  cases hx:xs[j]? with
  |none=>rw[hx] at hj;cases hj
  |some z=>
   rw[hx] at hj;cases hj;obtain⟨u,hu,hr⟩:=hc j z hx;refine⟨u,hu,?_⟩;obtain⟨b,cs⟩:=z
   cases b with
   |true=>obtain⟨a',e,hcs⟩:=hr;exact⟨a',e,ab0 hl hcs⟩
   |false=>obtain⟨x1,e,hx1,ho⟩:=hr;subst e;exact⟨_,rfl,aib hl hx1,ho⟩
theorem Z9(hl:sG.length=bP.length):Keep (bP::Ω) (sG::bΩ) ((bP++own.map (Obj.mg bP.length))::Ω) ((sG++bo)::bΩ):=by
 rintro⟨l,j⟩ o h
 cases l with
 |zero=>
  rw[bR] at h;have hj:=(List.getElem?_eq_some_iff.1 h).1;refine⟨o,by rw[bR,List.getElem?_append_left hj];exact h,?_⟩;rw[bR,bR,List.getElem?_append_left (by omega)];exact nD.refl _ _
 |succ l=>
  rw[dA] at h;exact⟨o,by rw[dA];exact h,by rw[dA,dA];exact nD.refl _ _⟩
theorem aru(hS:fH w σ (own::bP::Ω) (bo::sG::bΩ)):fH w σ ((bP++own.map (Obj.mg bP.length))::Ω) ((sG++bo)::bΩ):=by
 have hlo:bo.length=own.length:=by
  obtain⟨gr,h1,h2⟩:=hS.shape.2 0 own rfl;simp at h1;rw[h1];exact h2
 have hl:sG.length=bP.length:=by
  obtain⟨gr,h1,h2⟩:=hS.shape.2 1 bP rfl;simp at h1;rw[h1];exact h2
 have hn:eG w σ w σ:=eG.refl _ _;refine⟨fun k o ho=> ?_,fun k k' o o' h h' b e1 e2 e3 e4 e5 e6=> ?_,⟨by have:=hS.shape.1;simpa using this,fun l fr hfr=> ?_⟩,hS.live,hS.vO⟩
 ·obtain⟨k0,o0,hk,ho0,rfl,hh⟩:=Ls (bo:=bo) (bΩ:=bΩ) hl hlo ho;obtain⟨h,h1,h2⟩:=hS.obj k0 o0 ho0;refine⟨h,by rw[hh];exact h1,?_⟩;obtain⟨l0,j0⟩:=k0
  cases l0 with
  |zero=>
   subst hk;have h2:iL w σ (own::bP::Ω) (bo::sG::bΩ) o0 h:=h2;show iL w σ ((bP++own.map (Obj.mg bP.length))::Ω) ((sG++bo)::bΩ) (o0.mg bP.length) h
   cases o0 with
   |box cs=>
    obtain⟨b,c,t,e,q1,q2,q3⟩:=h2;exact⟨b,c,t,e,q1,q2,ab0 hl q3⟩
   |dead=>exact trivial
   |tok aW es=>exact h2
   |gF aW es=>exact h2
   |mp m=>exact h2
   |eu n aW es=>exact h2
   |seed n=>exact trivial
   |xf rs=>exact h2
  |succ l0=>
   have hk':k=(l0,j0):=hk.symm;subst hk';have h2:iL w σ ((bP::Ω).drop l0) ((sG::bΩ).drop l0) o0 h:=h2;exact h2.mono hn ((Z9 hl).drop l0) fun _ _=>⟨rfl,rfl⟩
 ·obtain⟨k0,o0,hk,ho0,ho,hh⟩:=Ls (bo:=bo) (bΩ:=bΩ) hl hlo e1;obtain⟨k1,o1,hk1,ho1,ho',Jj⟩:=Ls (bo:=bo) (bΩ:=bΩ) hl hlo e4;rw[hh] at e2;rw[Jj] at e5
  have b0:owns o0 h b:=by
   rw[ho] at e3;split at e3
   ·rw[Q9] at e3;exact e3
   ·exact e3
  have b1:owns o1 h' b:=by
   rw[ho'] at e6;split at e6
   ·rw[Q9] at e6;exact e6
   ·exact e6
  have:=hS.apart k0 k1 o0 o1 h h' b ho0 e2 b0 ho1 e5 b1;rw[<-hk,<-hk1,this]
 ·cases l with
  |zero=>
   simp at hfr;exact⟨_,rfl,by rw[<-hfr];simp[hl,hlo]⟩
  |succ l=>exact hS.shape.2 (l+2) fr (by simpa using hfr)
theorem am6(hS:fH w σ (own::bP::Ω) (bo::sG::bΩ)){b:Nat}(h:Own ((bP++own.map (Obj.mg bP.length))::Ω) ((sG++bo)::bΩ) b):Own (own::bP::Ω) (bo::sG::bΩ) b:=by
 have hlo:bo.length=own.length:=by
  obtain⟨gr,h1,h2⟩:=hS.shape.2 0 own rfl;simp at h1;rw[h1];exact h2
 have hl:sG.length=bP.length:=by
  obtain⟨gr,h1,h2⟩:=hS.shape.2 1 bP rfl;simp at h1;rw[h1];exact h2
 obtain⟨k,o,hv,e1,e2,e3⟩:=h;obtain⟨k0,o0,hk,ho0,ho,hh⟩:=Ls (bo:=bo) (bΩ:=bΩ) hl hlo e1;rw[hh] at e2;refine⟨k0,o0,hv,ho0,e2,?_⟩;rw[ho] at e3;split at e3
 ·rw[Q9] at e3;exact e3
 ·exact e3
end
def Wo(P:Program)(rs:List ResultVar)(post:V->Store->Prop)(e:Exit)(s:St):Prop:=
 match e with
 | .normal| .ret=>(vQ P rs s).1/\match s.st with
   |own::bP::Ω=>post ((vQ P rs s).2.mg bP.length) ((bP++own.map (Obj.mg bP.length))::Ω)
   |_=>False
 |_=>False
section
variable {P:Program} {N:Nat} {s:St}
theorem Sw{f:FuncId}{fn:Func}{c:Code}{args:List V}{bP:List Obj}{Ω:Store}{post:V->Store->Prop}(hf:P.funcs[f]? =some fn)(hb:fn.body=some c)(hn:(fn.name== "runtime.NumGoroutine")=false)
 (hl:args.length<=fn.ntmps)(h:AW P fn.ntmps c (Wo P fn.results.toList post) ⟨pz (args.map (V.up 1)) 0,[]::bP::Ω⟩):dw P f args (bP::Ω) post:=by
 refine⟨⟨fn,hf,hn,by simp[hb]⟩,fun w σ β vs hS hargs=> ?_⟩;refine calls_of_wp hf hb ?_;have hlen:vs.length=args.length:=hargs.1.symm
 have agW:lN fn.ntmps ⟨pz (args.map (V.up 1)) 0,[]::bP::Ω⟩ {tmps:=vs.toArray++Array.replicate (fn.ntmps-vs.toArray.size) undef,defers:=[]} w σ ([]::β):=by
  refine⟨by simp;omega,rfl,hS.up1,fun t=> ?_⟩;show dS w σ ([]::bP::Ω) ([]::β) (look (pz (args.map (V.up 1)) 0) t) _;rw[H9,if_pos (Nat.zero_le _),Nat.sub_zero,List.getElem?_map]
  cases ha:args[t]? with
  |none=>exact trivial
  |some x=>
   obtain⟨v,hv,hr⟩:=hargs.2 t x ha;have ht:=(List.getElem?_eq_some_iff.1 hv).1
   have:(vs.toArray++Array.replicate (fn.ntmps-vs.toArray.size) undef).getD t undef=v:=by
    rw[Array.getD_eq_getD_getElem?,Array.getElem?_append_left (by simpa using ht)];simp[hv]
   rw[this];exact QJ (S:=[]::bP::Ω) (β:=[]::β) 1 hr
 refine wp_mono (h _ w σ ([]::β) agW) ?_;rintro e a' w' ⟨s',σ',β',hR,hst,hkp,hq⟩
 have main:((vQ P fn.results.toList s').1/\match s'.st with
  |own::bP::Ω=>post ((vQ P fn.results.toList s').2.mg bP.length) ((bP++own.map (Obj.mg bP.length))::Ω)
  |_=>False)->
   a'.defers=[]/\∃v,(results fn a'.tmps).run P w'=.ok v w'/\∃v_1 r S' σ' β',Ending.returned v=Ending.returned v_1/\fH w' σ' S' β'/\Keep (bP::Ω) β S' β'/\Step (bP::Ω) β σ w S' β' σ' w'/\dS w' σ' S' β' r v_1/\post r S':=by
  rintro⟨q1,q2⟩;obtain⟨v,hv,hrep⟩:=R9 (fn:=fn) hR q1;obtain⟨tm,st⟩:=s';simp only at q2;split at q2
  ·rename_i own ab1 Ω1;obtain⟨bo,bΩ',rfl,hlo⟩:=frames hR
   cases bΩ' with
   |nil=>have:=hR.S.shape.1;simp at this
   |cons bo1 bΩ1=>
    have hl1:bo1.length=ab1.length:=by
     obtain⟨gr,h1,h2⟩:=hR.S.shape.2 1 ab1 rfl;simp at h1;rw[h1];exact h2
    have Ar:Keep (bP::Ω) β (ab1::Ω1) (bo1::bΩ1):=hkp;have hst':Step ([]::bP::Ω) ([]::β) σ w (own::ab1::Ω1) (bo::bo1::bΩ1) σ' w':=hst;exact⟨hR.defers,v,hv,v,_,_,σ',_,rfl,aru hR.S,Ar.trans (Z9 hl1),⟨hst'.size,hst'.os,hst'.output,fun b hb ho=>hst'.far b hb (fun x=>ho (Lf x)),hst'.near,fun b hb=>(hst'.own b (am6 hR.S hb)).imp Lf id⟩,ars hl1 hrep,q2⟩
  ·exact q2.elim
 cases e with
 |normal=>exact main hq
 |ret=>exact main hq
 |_=>exact hq.elim
def Wp(P:Program)(rs:List ResultVar)(post:V->Store->Prop)(s:St)(r:R):Prop:=r.1/\match s.st with
 |own::bP::Ω=>post (r.2.mg bP.length) ((bP++own.map (Obj.mg bP.length))::Ω)
 |_=>False
@[congr] theorem aps {rs:List ResultVar} {post:V->Store->Prop} {s s':St} {r r':R} (h1:s=s') (h2:r=r'):Wp P rs post s r=Wp P rs post s' r':=by rw[h1,h2]
theorem aic{rs:List ResultVar}{post:V->Store->Prop}{tm:List (Nat×V)}{S:Store}:Wo P rs post .ret ⟨tm,S⟩=Wp P rs post ⟨tm,S⟩ (vQ P rs ⟨tm,S⟩):=rfl
theorem Y2{rs:List ResultVar}{post:V->Store->Prop}{tm:List (Nat×V)}{S:Store}:Wo P rs post .normal ⟨tm,S⟩=Wp P rs post ⟨tm,S⟩ (vQ P rs ⟨tm,S⟩):=rfl
theorem ala{rs:List ResultVar}{post:V->Store->Prop}{tm:List (Nat×V)}{own bP:List Obj}{Ω:Store}{p:Prop}{v:V}:
 Wp P rs post ⟨tm,own::bP::Ω⟩ (p,v)=(p/\post (v.mg bP.length) ((bP++own.map (Obj.mg bP.length))::Ω)):=rfl
theorem J9{f:FuncId}{fn:Func}{c:Code}{args:List V}{bP:List Obj}{Ω:Store}{post:V->Store->Prop}{rs:List ResultVar}(eP:P.follows .mixedOrders=true)(hf:P.funcs[f]? =some fn)(hN:fn.ntmps=N)
 (hb:fn.body=some c) (hn:(fn.name== "runtime.NumGoroutine")=false) (hr:fn.results.toList=rs) (hl:Nat.ble args.length N=true) (hok:codeOk N c=true)
 (h:CW P N c (Wo P rs post) ⟨pz (args.map (V.up 1)) 0,[]::bP::Ω⟩):dw P f args (bP::Ω) post:=by
 subst hN;subst hr;exact Sw hf hb hn (Nat.le_of_ble_eq_true hl) (iB eP c _ _ hok h)
theorem mgK_0{n j:Nat}:Gz n (0,j)=(0,n+j):=rfl
theorem mgK_1{n l j:Nat}:Gz n (1+l,j)=(l,j):=by rw[Nat.add_comm];rfl
end
attribute [go_sem ↓] aic Y2
attribute [go_sem] ala V.mg C.mg Obj.mg mgK_0 mgK_1
end Go.Ab