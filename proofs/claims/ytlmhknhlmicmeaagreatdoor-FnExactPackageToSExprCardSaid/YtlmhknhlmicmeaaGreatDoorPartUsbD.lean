/-
  SEVERAL TEXTS IN ONE (merged by program): contracts and models, each with its own heading.
-/
import Derived.Test.YtlmhknhlmicmeaaGreatDoorPartUsbC
import Derived.Shelf.LaysM
import Derived.Shelf.Strconv.Itoa3
import Derived.Test.YtlmhknhlmicmeaaGreatDoorProg
import Derived.WalkKit
import Derived.ProofKit
import Derived.Lib.AppendZeros
import Derived.Laws.Cover3
set_option linter.unusedSimpArgs false
set_option linter.unusedVariables false
set_option maxRecDepth 4000
namespace Go.Ab
def AA(n:Nat):Key→Key
 |(0,j)=>(0,n+j)
 |(l+1,j)=>(l,j)
def C.mg(n:Nat):C→C
 | .d x=>.d x
 | .any=>.any
 | .bU k es=>.bU (AA n k) es
 | .bD es=>.bD es
 | .ptr k off=>.ptr (AA n k) off
 | .lH cs=>.lH cs
 | .mK k i off=>.mK (AA n k) i off
 | .iy k=>.iy (AA n k)
 | .fn f caps=>.fn f (caps.map fun x=>(AA n x.1,x.2))
 | .mp k=>.mp (AA n k)
 | .kT m es=>.kT m es
 | .xp k r p=>.xp (AA n k) r p
 | .xq k r p z i off=>.xq (AA n k) r p z i off
def V.mg(n:Nat):V→V
 | .c x=>.c (x.mg n)
 | .agg cs=>.agg (cs.map (C.mg n))
 | .iO xs=>.iO (xs.map fun y=>(y.1,y.2.map (C.mg n)))
 | .any=>.any
def Obj.mg(n:Nat):Obj→Obj
 | .box cs=>.box (cs.map (C.mg n))
 |o=>o
section
variable {P:Program} {w:World} {σ:Nat→Nat} {own bT:List Obj} {Ω:Store} {bo pJ:List Value} {bΩ:Hs}
theorem JM{n:Nat}{o:Obj}{h:Value}{b:Nat}:owns (o.mg n) h b↔owns o h b:=by
 cases o with
 |box cs=>
  cases h with
  |pointer a=>cases a<;>exact Iff.rfl
  |_=>exact Iff.rfl
 |_=>exact Iff.rfl
theorem zM{k:Key}{o:Obj}(h:bM (own::bT::Ω) k=some o):
 bM ((bT++own.map (Obj.mg bT.length))::Ω) (AA bT.length k)=some (if k.1=0 then o.mg bT.length else o):=by
 obtain⟨l,j⟩:=k
 cases l with
 |zero=>
  rw[cB] at h
  show bM _ (0,bT.length+j)=_
  rw[cB,List.getElem?_append_right (by omega),show bT.length+j-bT.length=j by omega,List.getElem?_map,h]
  rfl
 |succ l=>
  rw[dH] at h
  show bM _ (l,j)=some o
  cases l with
  |zero=>
   rw[cB] at h ⊢
   rw[List.getElem?_append_left (List.getElem?_eq_some_iff.1 h).1]
   exact h
  |succ l=>rw[dH] at h ⊢;exact h
theorem zN(hl:pJ.length=bT.length){k:Key}{h:Value}(e:bM (bo::pJ::bΩ) k=some h):bM ((pJ++bo)::bΩ) (AA bT.length k)=some h:=by
 obtain⟨l,j⟩:=k
 cases l with
 |zero=>
  rw[cB] at e
  show bM _ (0,bT.length+j)=_
  rw[cB,List.getElem?_append_right (by omega),show bT.length+j-pJ.length=j by omega,e]
 |succ l=>
  rw[dH] at e
  show bM _ (l,j)=some h
  cases l with
  |zero=>
   rw[cB] at e ⊢
   rw[List.getElem?_append_left (List.getElem?_eq_some_iff.1 e).1]
   exact e
  |succ l=>rw[dH] at e ⊢;exact e
theorem Em(hl:pJ.length=bT.length)(hlo:bo.length=own.length){k:Key}{o:Obj}(h:bM ((bT++own.map (Obj.mg bT.length))::Ω) k=some o):
 ∃k0 o0,AA bT.length k0=k∧bM (own::bT::Ω) k0=some o0∧o=(if k0.1=0 then o0.mg bT.length else o0)∧bM ((pJ++bo)::bΩ) k=bM (bo::pJ::bΩ) k0:=by
 obtain⟨l,j⟩:=k
 cases l with
 |zero=>
  rw[cB] at h
  by_cases hj:j<bT.length
  ·rw[List.getElem?_append_left hj] at h
   refine⟨(1,j),o,rfl,by rw[dH,cB];exact h,rfl,?_⟩
   rw[cB,dH,cB,List.getElem?_append_left (by omega)]
  ·rw[List.getElem?_append_right (by omega),List.getElem?_map] at h
   cases hx:own[j-bT.length]? with
   |none=>rw[hx] at h;cases h
   |some x=>
    rw[hx] at h;cases h
    refine⟨(0,j-bT.length),x,?_,by rw[cB];exact hx,rfl,?_⟩
    ·show(0,bT.length+(j-bT.length))=(0,j)
     rw[show bT.length+(j-bT.length)=j by omega]
    ·rw[cB,cB,List.getElem?_append_right (by omega),hl]
 |succ l=>
  rw[dH] at h
  exact⟨(l+2,j),o,rfl,by rw[dH,dH];exact h,rfl,by rw[dH,dH,dH]⟩
theorem uR{n:Nat}{k:Key}{o:Obj}:(∀bK es,qD (if k.1=0 then o.mg n else o) bK es→qD o bK es)∧(∀bK es,(if k.1=0 then o.mg n else o)=.eZ bK es→o=.eZ bK es)∧
 (∀m,(if k.1=0 then o.mg n else o)=.mp m→o=.mp m)∧(∀cs,(if k.1=0 then o.mg n else o)=.box cs→∃cs',o=.box cs')∧(∀rs,(if k.1=0 then o.mg n else o)=.xf rs→o=.xf rs):=by
 by_cases e:k.1=0
 ·simp only[if_pos e]
  cases o<;>simp[Obj.mg,qD]
 ·simp only[if_neg e]
  exact⟨fun _ _ h=>h,fun _ _ h=>h,fun _ h=>h,fun cs h=>⟨cs,h⟩,fun _ h=>h⟩
theorem YB(hl:pJ.length=bT.length){c:C}{v:Value}(h:iH w σ (own::bT::Ω) (bo::pJ::bΩ) c v):
 iH w σ ((bT++own.map (Obj.mg bT.length))::Ω) ((pJ++bo)::bΩ) (c.mg bT.length) v:=by
 cases c with
 |d x=>exact h
 |any=>exact trivial
 |bD es=>exact h
 |lH cs=>exact h
 |kT m es=>exact h
 |xp k r p=>
  obtain⟨o,ho,h2⟩:=h
  refine⟨_,zM ho,fun rs e=> ?_⟩
  obtain⟨hh,q1,q2⟩:=h2 rs (uR.2.2.2.2 _ e)
  exact⟨hh,zN hl q1,q2⟩
 |xq k r p z i off=>
  obtain⟨o,ho,h2⟩:=h
  refine⟨_,zM ho,fun rs e=> ?_⟩
  obtain⟨hh,b,a,n,cap,q1,q2⟩:=h2 rs (uR.2.2.2.2 _ e)
  exact⟨hh,b,a,n,cap,zN hl q1,q2⟩
 |bU k es=>
  obtain⟨h1,o,ho,h2⟩:=h
  refine⟨h1,_,zM ho,fun bK es' e=> ?_⟩
  obtain⟨q1,q2⟩:=h2 bK es' (uR.1 _ _ e)
  exact⟨q1,fun e'=>zN hl (q2 e')⟩
 |ptr k off=>
  obtain⟨o,ho,h2⟩:=h
  refine⟨_,zM ho,fun cs e=> ?_⟩
  obtain⟨cs',e'⟩:=uR.2.2.2.1 _ e
  obtain⟨b,q1,q2⟩:=h2 cs' e'
  exact⟨b,zN hl q1,q2⟩
 |mK k i off=>
  obtain⟨o,ho,h2⟩:=h
  refine⟨_,zM ho,fun bK es e=> ?_⟩
  obtain⟨b,n,cap,q1,q2⟩:=h2 bK es (uR.2.1 _ _ e)
  exact⟨b,n,cap,zN hl q1,q2⟩
 |iy k=>
  obtain⟨o,ho,h2⟩:=h
  exact⟨_,zM ho,fun bK es e=>zN hl (h2 bK es (uR.2.1 _ _ e))⟩
 |mp k=>
  obtain⟨o,ho,h2⟩:=h
  exact⟨_,zM ho,fun m e=>zN hl (h2 m (uR.2.2.1 _ e))⟩
 |fn f caps=>
  obtain⟨vs,e,hsz,hc⟩:=h
  refine⟨vs,e,by rw[hsz,List.length_map],fun j k off hj=> ?_⟩
  rw[List.getElem?_map] at hj
  cases hx:caps[j]? with
  |none=>rw[hx] at hj;cases hj
  |some y=>
   rw[hx] at hj
   injection hj with hj
   injection hj with e1 e2
   obtain⟨u,q1,q2,o,q3,q4⟩:=hc j y.1 y.2 hx
   refine⟨u,q1,q2,_,by rw[←e1];exact zM q3,fun cs e=> ?_⟩
   obtain⟨cs',e'⟩:=uR.2.2.2.1 _ e
   obtain⟨b,q5,q6⟩:=q4 cs' e'
   exact⟨b,by rw[←e1];exact zN hl q5,by rw[←e2];exact q6⟩
theorem TB(hl:pJ.length=bT.length){cs:List C}{vs:List Value}(h:gN w σ (own::bT::Ω) (bo::pJ::bΩ) cs vs):
 gN w σ ((bT++own.map (Obj.mg bT.length))::Ω) ((pJ++bo)::bΩ) (cs.map (C.mg bT.length)) vs:=by
 refine⟨by rw[List.length_map];exact h.1,fun j x hj=> ?_⟩
 rw[List.getElem?_map] at hj
 cases hx:cs[j]? with
 |none=>rw[hx] at hj;cases hj
 |some y=>
  rw[hx] at hj;cases hj
  obtain⟨v,h1,h2,h3⟩:=h.2 j y hx
  exact⟨v,h1,YB hl h2,h3⟩
theorem agm(hl:pJ.length=bT.length){x:V}{v:Value}(h:dQ w σ (own::bT::Ω) (bo::pJ::bΩ) x v):
 dQ w σ ((bT++own.map (Obj.mg bT.length))::Ω) ((pJ++bo)::bΩ) (x.mg bT.length) v:=by
 cases x with
 |c x=>exact⟨YB hl h.1,h.2⟩
 |agg cs=>obtain⟨a,ha,hc⟩:=h;exact⟨a,ha,TB hl hc⟩
 |any=>exact trivial
 |iO xs=>
  obtain⟨a,ha,hlen,hc⟩:=h
  refine⟨a,ha,by rw[List.length_map];exact hlen,fun j y hj=> ?_⟩
  rw[List.getElem?_map] at hj
  cases hx:xs[j]? with
  |none=>rw[hx] at hj;cases hj
  |some z=>
   rw[hx] at hj;cases hj
   obtain⟨u,hu,hr⟩:=hc j z hx
   refine⟨u,hu,?_⟩
   obtain⟨b,cs⟩:=z
   cases b with
   |true=>obtain⟨a',e,hcs⟩:=hr;exact⟨a',e,TB hl hcs⟩
   |false=>obtain⟨x1,e,hx1,ho⟩:=hr;subst e;exact⟨_,rfl,YB hl hx1,ho⟩
theorem Rv(hl:pJ.length=bT.length):Keep (bT::Ω) (pJ::bΩ) ((bT++own.map (Obj.mg bT.length))::Ω) ((pJ++bo)::bΩ):=by
 rintro⟨l,j⟩ o h
 cases l with
 |zero=>
  rw[cB] at h
  have hj:=(List.getElem?_eq_some_iff.1 h).1
  refine⟨o,by rw[cB,List.getElem?_append_left hj];exact h,?_⟩
  rw[cB,cB,List.getElem?_append_left (by omega)]
  exact mM.refl _ _
 |succ l=>
  rw[dH] at h
  exact⟨o,by rw[dH];exact h,by rw[dH,dH];exact mM.refl _ _⟩
theorem agn(hS:fC w σ (own::bT::Ω) (bo::pJ::bΩ)):fC w σ ((bT++own.map (Obj.mg bT.length))::Ω) ((pJ++bo)::bΩ):=by
 have hlo:bo.length=own.length:=by
  obtain⟨gr,h1,h2⟩:=hS.shape.2 0 own rfl
  simp at h1;rw[h1];exact h2
 have hl:pJ.length=bT.length:=by
  obtain⟨gr,h1,h2⟩:=hS.shape.2 1 bT rfl
  simp at h1;rw[h1];exact h2
 have hn:fZ w σ w σ:=fZ.refl _ _
 refine⟨fun k o ho=> ?_,fun k k' o o' h h' b e1 e2 e3 e4 e5 e6=> ?_,⟨by have:=hS.shape.1;simpa using this,fun l fr hfr=> ?_⟩,hS.live,hS.tO⟩
 ·obtain⟨k0,o0,hk,ho0,rfl,hh⟩:=Em (bo:=bo) (bΩ:=bΩ) hl hlo ho
  obtain⟨h,h1,h2⟩:=hS.obj k0 o0 ho0
  refine⟨h,by rw[hh];exact h1,?_⟩
  obtain⟨l0,j0⟩:=k0
  cases l0 with
  |zero=>
   subst hk
   have h2:iI w σ (own::bT::Ω) (bo::pJ::bΩ) o0 h:=h2
   show iI w σ ((bT++own.map (Obj.mg bT.length))::Ω) ((pJ++bo)::bΩ) (o0.mg bT.length) h
   cases o0 with
   |box cs=>
    obtain⟨b,c,t,e,q1,q2,q3⟩:=h2
    exact⟨b,c,t,e,q1,q2,TB hl q3⟩
   |dead=>exact trivial
   |tok bK es=>exact h2
   |eZ bK es=>exact h2
   |mp m=>exact h2
   |fB n bK es=>exact h2
   |seed n=>exact trivial
   |xf rs=>exact h2
  |succ l0=>
   have hk':k=(l0,j0):=hk.symm
   subst hk'
   have h2:iI w σ ((bT::Ω).drop l0) ((pJ::bΩ).drop l0) o0 h:=h2
   exact h2.mono hn ((Rv hl).drop l0) fun _ _=>⟨rfl,rfl⟩
 ·obtain⟨k0,o0,hk,ho0,ho,hh⟩:=Em (bo:=bo) (bΩ:=bΩ) hl hlo e1
  obtain⟨k1,o1,hk1,ho1,ho',VR⟩:=Em (bo:=bo) (bΩ:=bΩ) hl hlo e4
  rw[hh] at e2
  rw[VR] at e5
  have b0:owns o0 h b:=by
   rw[ho] at e3
   split at e3
   ·rw[JM] at e3;exact e3
   ·exact e3
  have b1:owns o1 h' b:=by
   rw[ho'] at e6
   split at e6
   ·rw[JM] at e6;exact e6
   ·exact e6
  have:=hS.apart k0 k1 o0 o1 h h' b ho0 e2 b0 ho1 e5 b1
  rw[←hk,←hk1,this]
 ·cases l with
  |zero=>
   simp at hfr
   exact⟨_,rfl,by rw[←hfr];simp[hl,hlo]⟩
  |succ l=>exact hS.shape.2 (l+2) fr (by simpa using hfr)
theorem ab6(hS:fC w σ (own::bT::Ω) (bo::pJ::bΩ)){b:Nat}(h:Own ((bT++own.map (Obj.mg bT.length))::Ω) ((pJ++bo)::bΩ) b):Own (own::bT::Ω) (bo::pJ::bΩ) b:=by
 have hlo:bo.length=own.length:=by
  obtain⟨gr,h1,h2⟩:=hS.shape.2 0 own rfl
  simp at h1;rw[h1];exact h2
 have hl:pJ.length=bT.length:=by
  obtain⟨gr,h1,h2⟩:=hS.shape.2 1 bT rfl
  simp at h1;rw[h1];exact h2
 obtain⟨k,o,hv,e1,e2,e3⟩:=h
 obtain⟨k0,o0,hk,ho0,ho,hh⟩:=Em (bo:=bo) (bΩ:=bΩ) hl hlo e1
 rw[hh] at e2
 refine⟨k0,o0,hv,ho0,e2,?_⟩
 rw[ho] at e3
 split at e3
 ·rw[JM] at e3;exact e3
 ·exact e3
end
def OC(P:Program)(rs:List ResultVar)(post:V→Store→Prop)(e:Exit)(s:St):Prop:=
 match e with
 | .normal| .ret=>(rO P rs s).1∧match s.st with
   |own::bT::Ω=>post ((rO P rs s).2.mg bT.length) ((bT++own.map (Obj.mg bT.length))::Ω)
   |_=>False
 |_=>False
section
variable {P:Program} {N:Nat} {s:St}
theorem K4{f:FuncId}{fn:Func}{c:Code}{args:List V}{bT:List Obj}{Ω:Store}{post:V→Store→Prop}(hf:P.funcs[f]? =some fn)(hb:fn.body=some c)(hn:(fn.name== "runtime.NumGoroutine")=false)
 (hl:args.length≤fn.ntmps) (h:AW P fn.ntmps c (OC P fn.results.toList post) ⟨o9 (args.map (V.up 1)) 0,[]::bT::Ω⟩):dh P f args (bT::Ω) post:=by
 refine⟨⟨fn,hf,hn,by simp[hb]⟩,fun w σ β vs hS hargs=> ?_⟩
 refine calls_of_wp hf hb ?_
 have hlen:vs.length=args.length:=hargs.1.symm
 have Xg:j6 fn.ntmps ⟨o9 (args.map (V.up 1)) 0,[]::bT::Ω⟩ {tmps:=vs.toArray++Array.replicate (fn.ntmps-vs.toArray.size) undef,defers:=[]} w σ ([]::β):=by
  refine⟨by simp;omega,rfl,hS.up1,fun t=> ?_⟩
  show dQ w σ ([]::bT::Ω) ([]::β) (look (o9 (args.map (V.up 1)) 0) t) _
  rw[Bg,if_pos (Nat.zero_le _),Nat.sub_zero,List.getElem?_map]
  cases ha:args[t]? with
  |none=>exact trivial
  |some x=>
   obtain⟨v,hv,hr⟩:=hargs.2 t x ha
   have ht:=(List.getElem?_eq_some_iff.1 hv).1
   have:(vs.toArray++Array.replicate (fn.ntmps-vs.toArray.size) undef).getD t undef=v:=by
    rw[Array.getD_eq_getD_getElem?,Array.getElem?_append_left (by simpa using ht)]
    simp[hv]
   rw[this]
   exact Ju (S:=[]::bT::Ω) (β:=[]::β) 1 hr
 refine wp_mono (h _ w σ ([]::β) Xg) ?_
 rintro e a' w' ⟨s',σ',β',hR,hst,hkp,hq⟩
 have main:((rO P fn.results.toList s').1∧match s'.st with
  |own::bT::Ω=>post ((rO P fn.results.toList s').2.mg bT.length) ((bT++own.map (Obj.mg bT.length))::Ω)
  |_=>False)→
   a'.defers=[]∧∃v,(results fn a'.tmps).run P w'=.ok v w'∧∃v_1 r S' σ' β',Ending.returned v=Ending.returned v_1∧fC w' σ' S' β'∧Keep (bT::Ω) β S' β'∧Step (bT::Ω) β σ w S' β' σ' w'∧dQ w' σ' S' β' r v_1∧post r S':=by
  rintro⟨q1,q2⟩
  obtain⟨v,hv,hrep⟩:=KJ (fn:=fn) hR q1
  obtain⟨tm,st⟩:=s'
  simp only at q2
  split at q2
  ·rename_i own TD Ω1
   obtain⟨bo,bΩ',rfl,hlo⟩:=frames hR
   cases bΩ' with
   |nil=>have:=hR.S.shape.1;simp at this
   |cons bo1 bΩ1=>
    have hl1:bo1.length=TD.length:=by
     obtain⟨gr,h1,h2⟩:=hR.S.shape.2 1 TD rfl
     simp at h1;rw[h1];exact h2
    have wm:Keep (bT::Ω) β (TD::Ω1) (bo1::bΩ1):=hkp
    have hst':Step ([]::bT::Ω) ([]::β) σ w (own::TD::Ω1) (bo::bo1::bΩ1) σ' w':=hst
    exact⟨hR.defers,v,hv,v,_,_,σ',_,rfl,agn hR.S,wm.trans (Rv hl1),⟨hst'.size,hst'.os,hst'.output,fun b hb ho=>hst'.far b hb (fun x=>ho (Ed x)),hst'.near,fun b hb=>(hst'.own b (ab6 hR.S hb)).imp Ed id⟩,agm hl1 hrep,q2⟩
  ·exact q2.elim
 cases e with
 |normal=>exact main hq
 |ret=>exact main hq
 |_=>exact hq.elim
def OD(P:Program)(rs:List ResultVar)(post:V→Store→Prop)(s:St)(r:R):Prop:=r.1∧match s.st with
 |own::bT::Ω=>post (r.2.mg bT.length) ((bT++own.map (Obj.mg bT.length))::Ω)
 |_=>False
@[congr] theorem aeC {rs:List ResultVar} {post:V→Store→Prop} {s s':St} {r r':R} (h1:s=s') (h2:r=r'):OD P rs post s r=OD P rs post s' r':=by rw[h1,h2]
theorem YC{rs:List ResultVar}{post:V→Store→Prop}{tm:List (Nat×V)}{S:Store}:OC P rs post .ret ⟨tm,S⟩=OD P rs post ⟨tm,S⟩ (rO P rs ⟨tm,S⟩):=rfl
theorem Qs{rs:List ResultVar}{post:V→Store→Prop}{tm:List (Nat×V)}{S:Store}:OC P rs post .normal ⟨tm,S⟩=OD P rs post ⟨tm,S⟩ (rO P rs ⟨tm,S⟩):=rfl
theorem aaJ{rs:List ResultVar}{post:V→Store→Prop}{tm:List (Nat×V)}{own bT:List Obj}{Ω:Store}{p:Prop}{v:V}:
 OD P rs post ⟨tm,own::bT::Ω⟩ (p,v)=(p∧post (v.mg bT.length) ((bT++own.map (Obj.mg bT.length))::Ω)):=rfl
theorem K5{f:FuncId}{fn:Func}{c:Code}{args:List V}{bT:List Obj}{Ω:Store}{post:V→Store→Prop}{rs:List ResultVar}(jM:P.follows .mixedOrders=true)(hf:P.funcs[f]? =some fn)(hN:fn.ntmps=N)
 (hb:fn.body=some c) (hn:(fn.name== "runtime.NumGoroutine")=false) (hr:fn.results.toList=rs) (hl:Nat.ble args.length N=true) (hok:codeOk N c=true)
 (h:CW P N c (OC P rs post) ⟨o9 (args.map (V.up 1)) 0,[]::bT::Ω⟩):dh P f args (bT::Ω) post:=by
 subst hN
 subst hr
 exact K4 hf hb hn (Nat.le_of_ble_eq_true hl) (mW jM c _ _ hok h)
theorem mgK_0{n j:Nat}:AA n (0,j)=(0,n+j):=rfl
theorem mgK_1{n l j:Nat}:AA n (1+l,j)=(l,j):=by rw[Nat.add_comm];rfl
end
attribute [go_sem ↓] YC Qs
attribute [go_sem] aaJ V.mg C.mg Obj.mg mgK_0 mgK_1
end Go.Ab
namespace Go.Ab
mutual
def jy:D→Nat
 | .sl es=>dG es+1
 | .ol _ _=>0
 | .b _=>0
 | .i _ _=>0
 | .s _=>0
 | .o _=>0
def jq:List D→Nat
 |[]=>0
 |d::ds=>jy d+jq ds
def dG:List (List D)→Nat
 |[]=>0
 |r::rs=>jq r+dG rs
end
mutual
def eU:D→Nat→D
 | .sl es,n=>.ol n (fu es (n+1))
 | .ol m es,_=>.ol m es
 | .b x,_=>.b x
 | .i k x,_=>.i k x
 | .s l,_=>.s l
 | .o v,_=>.o v
def dR:List D→Nat→List D
 |[],_=>[]
 |d::ds,n=>eU d n::dR ds (n+jy d)
def fu:List (List D)→Nat→List (List D)
 |[],_=>[]
 |r::rs,n=>dR r n::fu rs (n+jq r)
end
mutual
def qB:D→Bool
 | .sl es=>jT es
 | .ol _ _=>false
 | .b _=>true
 | .i _ _=>true
 | .s _=>true
 | .o _=>false
def jJ:List D→Bool
 |[]=>true
 |d::ds=>qB d&&jJ ds
def jT:List (List D)→Bool
 |[]=>true
 |r::rs=>jJ r&&jT rs
end
theorem Dr:∀a b n,fu (a++b) n=fu a n++fu b (n+dG a)
 |[],b,n=>by simp[fu,dG]
 |d::ds,b,n=>by rw[List.cons_append,fu,fu,Dr ds b,dG,Nat.add_assoc];rfl
theorem eY:∀r n,(dR r n).length=r.length
 |[],_=>rfl
 |d::ds,n=>by rw[dR,List.length_cons,eY ds,List.length_cons]
theorem gB:∀rs n,(fu rs n).length=rs.length
 |[],_=>rfl
 |r::rs,n=>by rw[fu,List.length_cons,gB rs,List.length_cons]
theorem Ip{z:Nat}:∀{rs:List (List D)} {n:Nat},(∀r∈rs,r.length=z)→∀r∈fu rs n,r.length=z
 |[],_,_,r,h=>by rw[fu] at h;cases h
 |a::rs,n,ha,r,h=>by
  rw[fu] at h
  rcases List.mem_cons.1 h with e|h
  ·rw[e,eY];exact ha a (by simp)
  ·exact Ip (fun r hr=>ha r (by simp[hr])) r h
theorem ig:∀a b,jJ (a++b)=(jJ a&&jJ b)
 |[],b=>by simp[jJ]
 |d::ds,b=>by rw[List.cons_append,jJ,jJ,ig ds b,Bool.and_assoc]
theorem kQ{α:Type}{f:α→List D}:∀{xs:List α},(∀x∈xs,jJ (f x)=true)→jT (xs.map f)=true
 |[],_=>rfl
 |x::xs,h=>by
  rw[List.map_cons,jT,h x (by simp),kQ fun y hy=>h y (by simp[hy])];rfl
section
variable {P:Program} {w:World} {σ σ':Nat→Nat} {S:Store} {β:Hs} {N:Nat} {s:St}
mutual
theorem ab8:∀(d:D) (n:Nat) (v:Value),eH w σ (eU d n) v→eH w σ d v
 | .sl es,n,v,h=>by
   rw[eU] at h
   have hl:=gB es (n+1)
   have hrec:=ZI es (n+1)
   generalize fu es (n+1)=q at h hl hrec
   cases h with
   |xJ n a cap=>
    have:es=[]:=List.eq_nil_of_length_eq_zero (by simpa using hl.symm)
    subst this
    exact .nil a cap
   |ol n b off cap bK q vals c t hcap hlen hb hσ hfit hc hv=>
    obtain⟨r1,r2⟩:=hrec vals hv
    rw[hl] at hcap hfit hc ⊢
    refine .sl b off cap bK es vals c t (0,0) hcap (fun e he=> ?_) hb (by omega) hc r2
    obtain⟨e',h1,h2⟩:=r1 e he
    rw[←h2];exact hlen e' h1
 | .ol m es,n,v,h=>h
 | .b x,n,v,h=>h
 | .i k x,n,v,h=>h
 | .s l,n,v,h=>h
 | .o u,n,v,h=>h
theorem ab9:∀(r:List D) (n:Nat) (vals:Nat→Value),(∀j d,(dR r n)[j]? =some d→eH w σ d (vals j))→∀(j:Nat) d,r[j]? =some d→eH w σ d (vals j)
 |[],n,vals,h,j,d,hd=>by simp at hd
 |a::r,n,vals,h,j,d,hd=>by
  cases j with
  |zero=>
   simp at hd;subst hd
   exact ab8 a n _ (h 0 _ rfl)
  |succ j=>exact ab9 r (n+jy a) (fun i=>vals (i+1)) (fun i d hi=>h (i+1) d (by rw[dR];exact hi)) j d hd
theorem ZI:∀(rs:List (List D)) (n:Nat) (vals:Nat→Value),(∀j d,(fu rs n).flatten[j]? =some d→eH w σ d (vals j))→
 (∀e∈rs,∃e'∈fu rs n,e'.length=e.length)∧∀(j:Nat) d,rs.flatten[j]? =some d→eH w σ d (vals j)
 |[],n,vals,h=>⟨fun e he=>(by cases he),fun j d hd=>(by simp at hd)⟩
 |r::rs,n,vals,h=>by
  rw[fu,List.flatten_cons] at h
  have h1:=ab9 r n vals fun j d hd=>h j d (by rw[List.getElem?_append_left (List.getElem?_eq_some_iff.1 hd).1];exact hd)
  obtain⟨h2,h3⟩:=ZI rs (n+jq r) (fun i=>vals (r.length+i)) fun j d hd=>h (r.length+j) d (by rw[List.getElem?_append_right (by rw[eY];omega),eY,Nat.add_sub_cancel_left];exact hd)
  refine⟨fun e he=> ?_,fun j d hd=> ?_⟩
  ·rcases List.mem_cons.1 he with e1|he
   ·subst e1;exact⟨_,by rw[fu];exact List.mem_cons_self ..,eY _ _⟩
   ·obtain⟨e',q1,q2⟩:=h2 e he
    exact⟨e',by rw[fu];exact List.mem_cons_of_mem _ q1,q2⟩
  ·rw[List.flatten_cons] at hd
   by_cases hj:j<r.length
   ·rw[List.getElem?_append_left hj] at hd;exact h1 j d hd
   ·rw[List.getElem?_append_right (by omega)] at hd
    have:=h3 (j-r.length) d hd
    rwa [show r.length+(j-r.length)=j by omega] at this
end
theorem OE{r:List D}{n:Nat}:Less (.agg ((dR r n).map .d)) (.agg (r.map .d)):=by
 rintro w σ S β v ⟨a,ha,hl,hc⟩
 rw[List.length_map,eY] at hl
 refine⟨a,ha,by rw[List.length_map];exact hl,?_⟩
 have key:∀(r:List D) (n:Nat) (vs:List Value),(∀(j:Nat) (x:C),((dR r n).map C.d)[j]? =some x→∃v:Value,vs[j]? =some v∧iH w σ S β x v∧v.oneCell'=true)→
  ∀(j:Nat) (x:C),(r.map C.d)[j]? =some x→∃v:Value,vs[j]? =some v∧iH w σ S β x v∧v.oneCell'=true:=by
  intro r
  induction r with
  |nil=>intro n vs h j x hx;simp at hx
  |cons d ds ih=>
   intro n vs h j x hx
   cases j with
   |zero=>
    simp at hx;subst hx
    obtain⟨v,h1,h2,h3⟩:=h 0 (.d (eU d n)) rfl
    exact⟨v,h1,ab8 d n v h2,h3⟩
   |succ j=>
    have:=ih (n+jy d) vs.tail (fun i y hy=>by
     obtain⟨v,h1,h2⟩:=h (i+1) y (by rw[dR,List.map_cons];exact hy)
     refine⟨v,?_,h2⟩
     cases vs with
     |nil=>simp at h1
     |cons a b=>exact h1) j x hx
    obtain⟨v,h1,h2⟩:=this
    refine⟨v,?_,h2⟩
    cases vs with
    |nil=>simp at h1
    |cons a b=>exact h1
 exact key r n _ hc
inductive q8:List V→List V→Prop
 |nil:q8 [] []
 |cons {x y:V} {xs ys:List V}:Less x y→q8 xs ys→q8 (x::xs) (y::ys)
theorem q8.length:∀{xs ys:List V},q8 xs ys→xs.length=ys.length
 |_,_,.nil=>rfl
 |_,_,.cons _ h=>by rw[List.length_cons,List.length_cons,q8.length h]
theorem q8.at:∀{xs ys:List V},q8 xs ys→∀(j:Nat) (x y:V),xs[j]? =some x→ys[j]? =some y→Less x y
 |_,_,.nil,j,x,y,h,_=>by simp at h
 |_,_,.cons a h,0,x,y,h1,h2=>by simp at h1 h2;subst h1;subst h2;exact a
 |_,_,.cons a h,j+1,x,y,h1,h2=>q8.at h j x y (by simpa using h1) (by simpa using h2)
theorem aG.args{f:FuncId}{args args':List V}{r:V}(h:aG P f args' r)(hl:q8 args args'):aG P f args r:=fun S=>(h S).weaken hl.length fun j x y hx hy w σ β v hr=>hl.at j x y hx hy w σ S β v hr
theorem q9{dr:Option Nat}{f:FuncId}{args args':List V}{dst:Option Nat}{K:St→Prop}{r:V}(h:aG P f args' r)(hl:q8 (args.map V.rU) args')(hK:K (s.put dst r)):fq P dr f args s dst K:=ah (h.args hl) hK
def YD(row:Bool)(j n:Nat)(es:List (List D))(tm:List (Nat×V)):List (Nat×V):=tm.map fun x=>(x.1,x.2.kI (C.lab row j n es))
theorem Wi{row:Bool}{j n:Nat}{es:List (List D)}{tm:List (Nat×V)}{t:Nat}:look (YD row j n es tm) t=(look tm t).kI (C.lab row j n es):=Bq (f:=V.kI (C.lab row j n es)) rfl tm t
def TF(j n:Nat)(tm:List (Nat×V))(own:List Obj)(Ω:Store):Option Obj→St
 |some (.eZ _ es)=>⟨YD true j n es tm,(own.map (Obj.kI (C.lab true j n es))).set j .dead::Ω⟩
 |some (.fB m _ es)=>⟨YD false j m es tm,(own.map (Obj.kI (C.lab false j m es))).set j .dead::Ω⟩
 |_=>⟨tm,own::Ω⟩
def MK(j n:Nat)(s:St):St:=
 match s.st with
 |own::Ω=>TF j n s.tm own Ω (own[j]?)
 |[]=>s
def Iq:Nat→Nat→St→St
 |0,_,s=>s
 |k+1,n,s=>Iq k n (MK k n s)
def AB(n:Nat)(s:St):St:=
 match s.st with
 |own::_=>Iq own.length n s
 |[]=>s
theorem EZ(j n:Nat)(s:St):gY N s (MK j n s):=by
 obtain⟨tm,st⟩:=s
 cases st with
 |nil=>exact gY.refl _ _
 |cons own Ω=>
  show gY N ⟨tm,own::Ω⟩ (TF j n tm own Ω (own[j]?))
  cases ho:own[j]? with
  |none=>exact gY.refl _ _
  |some o=>
   cases o with
   |eZ z es=>exact fun a w σ β hR=>Rn j n z es true ho hR
   |fB m z es=>exact fun a w σ β hR=>Rn j m z es false ho hR
   |_=>exact gY.refl _ _
theorem E5:∀(k n:Nat) (s:St),gY N s (Iq k n s)
 |0,n,s=>gY.refl _ _
 |k+1,n,s=>(EZ k n s).trans (E5 k n _)
theorem zi(n:Nat)(s:St):gY N s (AB n s):=by
 unfold AB
 split
 ·exact E5 _ _ _
 ·exact gY.refl _ _
theorem YE{j n:Nat}{tm:List (Nat×V)}{own:List Obj}{Ω:Store}:MK j n ⟨tm,own::Ω⟩=TF j n tm own Ω (own[j]?):=rfl
theorem Wj{n:Nat}{tm:List (Nat×V)}{own:List Obj}{Ω:Store}:AB n ⟨tm,own::Ω⟩=Iq own.length n ⟨tm,own::Ω⟩:=rfl
def OG(P:Program)(n:Nat)(rs:List ResultVar)(post:V→Store→Prop)(e:Exit)(s:St):Prop:=Xe P rs post e (AB n s)
theorem YF{n:Nat}{rs:List ResultVar}{post:V→Store→Prop}:OG P n rs post .ret s=N7 P rs post (AB n s):=rfl
theorem Qt{n:Nat}{rs:List ResultVar}{post:V→Store→Prop}:OG P n rs post .normal s=N7 P rs post (AB n s):=rfl
theorem jk(n:Nat){f:FuncId}{fn:Func}{c:Code}{args:List V}{post:V→Store→Prop}{rs:List ResultVar}(jM:P.follows .mixedOrders=true)(hf:P.funcs[f]? =some fn)(hN:fn.ntmps=N)
 (hb:fn.body=some c) (hn:(fn.name== "runtime.NumGoroutine")=false) (hr:fn.results.toList=rs) (hl:Nat.ble args.length N=true) (hok:codeOk N c=true)
 (h:CW P N c (OG P n rs post) ⟨o9 (args.map (V.up 1)) 0,[.seed n]::S⟩):dh P f args S post:=by
 subst hN
 subst hr
 exact wO hf hb hn (Nat.le_of_ble_eq_true hl) (Jy n (yX (zi n) (mW jM c _ _ hok h)))
theorem YG{row:Bool}{j n l i:Nat}{es es':List (List D)}:C.lab row j n es (.bU (1+l,i) es')=.bU (1+l,i) es':=by rw[Nat.add_comm];rfl
theorem YH{row:Bool}{j n i:Nat}{es es':List (List D)}:C.lab row j n es (.bU (0,i) es')=if i=j∧row=false∧es'.length=es.length then .d (.ol n es) else .bU (0,i) es':=rfl
theorem YI{row:Bool}{j n l i:Nat}{es:List (List D)}:C.lab row j n es (.iy (1+l,i))=.iy (1+l,i):=by rw[Nat.add_comm];rfl
theorem YJ{row:Bool}{j n i:Nat}{es:List (List D)}:C.lab row j n es (.iy (0,i))=if i=j∧row=true then .d (.ol n es) else .iy (0,i):=rfl
theorem aeD{row:Bool}{j n:Nat}{es:List (List D)}{x:D}:C.lab row j n es (.d x)=.d x:=rfl
theorem aaK{row:Bool}{j n:Nat}{es:List (List D)}:C.lab row j n es .any=.any:=rfl
theorem aaL{row:Bool}{j n:Nat}{es es':List (List D)}:C.lab row j n es (.bD es')=.bD es':=rfl
theorem aaM{row:Bool}{j n m:Nat}{es es':List (List D)}:C.lab row j n es (.kT m es')=.kT m es':=rfl
theorem aaN{row:Bool}{j n off:Nat}{es:List (List D)}{k:Key}:C.lab row j n es (.ptr k off)=.ptr k off:=rfl
theorem acd{row:Bool}{j n f:Nat}{es:List (List D)}{caps:List (Key×Nat)}:C.lab row j n es (.fn f caps)=.fn f caps:=rfl
theorem YK{row:Bool}{j n:Nat}{es:List (List D)}{cs:List D}:C.lab row j n es (.lH cs)=.lH cs:=rfl
theorem jD{ι:Type}{ts:List Nat}{f:ι→List V}{g:ι→Store}{p:ι→Prop}{μ:ι→Nat}{i:ι}{tm:List (Nat×V)}{own:List Obj}{Ω:Store}{m:Nat}(m' n:Nat)(hnd:ts.Nodup)(j:ι)(h1:μ j<μ i)(h2:ts.map (look tm)=f j)(h3:(Obj.seed m'::own.take n)::Ω=g j)
 (hr:gV (n+1) (gy ts (f j))=true) (ho:(own.take n).all (Obj.refs (n+1))=true) (h4:p j):Inv N ts f g p μ i ⟨tm,(.seed m::own)::Ω⟩:=by
 refine⟨j,⟨gy ts (f j),(.seed m'::own.take n)::Ω⟩,h1,?_,?_,h3,h4⟩
 ·have hg:gY N ⟨tm,(.seed m::own)::Ω⟩ ⟨gy ts (f j),(.seed m::own)::Ω⟩:=by
   rw[←h2]
   exact FB fun t=>y5 _ ts t
  refine hg.trans ((GX (n+1) hr ?_).trans (yV m'))
  rw[List.take_succ_cons,List.all_cons,ho];rfl
 ·exact y7 ts (f j) hnd (by rw[←h2];simp)
end
attribute [go_sem ↓] YF Qt Wj
attribute [go_sem] Iq YE TF Wi V.kI Obj.kI YG YH YI YJ aeD aaK aaL aaM aaN acd YK
end Go.Ab
namespace Go.Ab
section
variable {P:Program} {N:Nat} {S:Store} {s:St} {tm:List (Nat×V)}
def En(E:Md)(R:Array Oper)(K:St→Prop)(s:St):Prop:=MG E R s.tm=true∧K s
@[congr] theorem acO {E:Md} {R:Array Oper} {K:St→Prop} {s s':St} (h2:s=s'):En E R K s=En E R K s':=by rw[h2]
def xV(P:Program)(N:Nat):Code→(Exit→St→Prop)→St→Prop
 | .seq x y,Q,s=>xV P N x (mO (xV P N y Q) Q) s
 | .region _ R true,Q,s=>pQ P (xu R N) R R.toList s (En (xu R N) R (Q .normal))
 | .region id R false,Q,s=>CW P N (.region id R false) Q s
 | .cond c x y,Q,s=>CW P N (.cond c x y) Q s
 | .block id c,Q,s=>CW P N (.block id c) Q s
 | .exit id,Q,s=>CW P N (.exit id) Q s
 | .ret,Q,s=>CW P N .ret Q s
 | .skip,Q,s=>CW P N .skip Q s
 | .loop c,Q,s=>CW P N (.loop c) Q s
 |_,_,_=>False
theorem aaO{x y:Code}{Q:Exit→St→Prop}:xV P N (.seq x y) Q s=xV P N x (mO (xV P N y Q) Q) s:=by rw[xV]
theorem YL{id:Nat}{l:List Oper}{Q:Exit→St→Prop}:xV P N (.region id ⟨l⟩ true) Q s=pQ P (xu ⟨l⟩ N) ⟨l⟩ l s (En (xu ⟨l⟩ N) ⟨l⟩ (Q .normal)):=by rw[xV]
theorem TG{id:Nat}{l:List Oper}{Q:Exit→St→Prop}:xV P N (.region id ⟨l⟩ false) Q s=CW P N (.region id ⟨l⟩ false) Q s:=by rw[xV]
theorem YM{c:Operand}{x y:Code}{Q:Exit→St→Prop}:xV P N (.cond c x y) Q s=CW P N (.cond c x y) Q s:=by rw[xV]
theorem aaP{Q:Exit→St→Prop}:xV P N .ret Q s=CW P N .ret Q s:=by rw[xV]
theorem YN{Q:Exit→St→Prop}:xV P N .skip Q s=CW P N .skip Q s:=by rw[xV]
end
attribute [go_sem ↓] aaO YL TG YM aaP YN
end Go.Ab
namespace Go.Ab
section
variable {P:Program} {N:Nat} {S:Store} {s:St} {tm:List (Nat×V)}
def p8(P:Program)(N:Nat):Code→(Exit→St→Prop)→St→Prop
 | .seq x y,Q,s=>p8 P N x (mO (p8 P N y Q) Q) s
 | .region _ R true,Q,s=>pQ P (xu R N) R R.toList s (En (xu R N) R (Q .normal))
 | .region id R false,Q,s=>CW P N (.region id R false) Q s
 | .cond c x y,Q,s=>Ei (ev s.tm c) (p8 P N x Q) (p8 P N y Q) s
 | .block id c,Q,s=>p8 P N c (yu id Q) s
 | .exit id,Q,s=>CW P N (.exit id) Q s
 | .ret,Q,s=>CW P N .ret Q s
 | .skip,Q,s=>CW P N .skip Q s
 | .loop c,Q,s=>CW P N (.loop c) Q s
 |_,_,_=>False
theorem aaQ{x y:Code}{Q:Exit→St→Prop}:p8 P N (.seq x y) Q s=p8 P N x (mO (p8 P N y Q) Q) s:=by rw[p8]
theorem YO{id:Nat}{l:List Oper}{Q:Exit→St→Prop}:p8 P N (.region id ⟨l⟩ true) Q s=pQ P (xu ⟨l⟩ N) ⟨l⟩ l s (En (xu ⟨l⟩ N) ⟨l⟩ (Q .normal)):=by rw[p8]
theorem TH{id:Nat}{l:List Oper}{Q:Exit→St→Prop}:p8 P N (.region id ⟨l⟩ false) Q s=CW P N (.region id ⟨l⟩ false) Q s:=by rw[p8]
theorem YP{c:Operand}{x y:Code}{Q:Exit→St→Prop}:p8 P N (.cond c x y) Q s=Ei (ev s.tm c) (p8 P N x Q) (p8 P N y Q) s:=by rw[p8]
theorem Wl{id:Nat}{c:Code}{Q:Exit→St→Prop}:p8 P N (.block id c) Q s=p8 P N c (yu id Q) s:=by rw[p8]
theorem YQ{id:Nat}{Q:Exit→St→Prop}:p8 P N (.exit id) Q s=CW P N (.exit id) Q s:=by rw[p8]
theorem aaR{Q:Exit→St→Prop}:p8 P N .ret Q s=CW P N .ret Q s:=by rw[p8]
theorem YR{Q:Exit→St→Prop}:p8 P N .skip Q s=CW P N .skip Q s:=by rw[p8]
theorem YS{c:Code}{Q:Exit→St→Prop}:p8 P N (.loop c) Q s=CW P N (.loop c) Q s:=by rw[p8]
end
attribute [go_sem ↓] aaQ YO TH YP Wl YQ aaR YR YS
end Go.Ab
namespace Go.Ab
section
variable {P:Program} {N:Nat} {S:Store} {s:St} {tm:List (Nat×V)}
end
end Go.Ab
namespace Go.Ab
theorem TI{P:Program}{N:Nat}(n:Nat){f:FuncId}{fn:Func}{c:Code}{args:List V}{bT:List Obj}{Ω:Store}{post:V→Store→Prop}{rs:List ResultVar}(jM:P.follows .mixedOrders=true)(hf:P.funcs[f]? =some fn)(hN:fn.ntmps=N)
 (hb:fn.body=some c) (hn:(fn.name== "runtime.NumGoroutine")=false) (hr:fn.results.toList=rs) (hl:Nat.ble args.length N=true) (hok:codeOk N c=true)
 (h:CW P N c (OC P rs post) ⟨o9 (args.map (V.up 1)) 0,[.seed n]::bT::Ω⟩):dh P f args (bT::Ω) post:=by
 subst hN
 subst hr
 exact K4 hf hb hn (Nat.le_of_ble_eq_true hl) (Jy n (mW jM c _ _ hok h))
theorem OH{P:Program}{N:Nat}{c:Code}{Q:Exit→St→Prop}{tm:List (Nat×V)}{Ω:Store}(n k:Nat)(h:AW P N c Q ⟨tm,[.seed n,.seed k]::Ω⟩):AW P N c Q ⟨tm,[]::Ω⟩:=by
 refine Jy n (pR h fun a w σ β hR=> ?_)
 obtain⟨bo,bΩ,rfl,hlen⟩:=frames hR
 obtain⟨hS',hk,hst⟩:=hR.S.push (o:=.seed k) (h:=undef) (Grow.refl hR.S.live) hlen trivial (fun b hb=>by cases hb)
 exact⟨σ,_,⟨hR.size,hR.defers,hS',fun u=>(hR.T u).mono (fZ.refl _ _) hk⟩,hst,Keep.refl _ _⟩
section
variable {P:Program} {N:Nat} {S:Store}
theorem oz(n k:Nat){f:FuncId}{fn:Func}{c:Code}{args:List V}{post:V→Store→Prop}{rs:List ResultVar}(jM:P.follows .mixedOrders=true)(hf:P.funcs[f]? =some fn)(hN:fn.ntmps=N)
 (hb:fn.body=some c) (hn:(fn.name== "runtime.NumGoroutine")=false) (hr:fn.results.toList=rs) (hl:Nat.ble args.length N=true) (hok:codeOk N c=true)
 (h:CW P N c (OG P n rs post) ⟨o9 (args.map (V.up 1)) 0,[.seed n,.seed k]::S⟩):dh P f args S post:=by
 subst hN
 subst hr
 exact wO hf hb hn (Nat.le_of_ble_eq_true hl) (OH n k (yX (zi n) (mW jM c _ _ hok h)))
end
end Go.Ab
namespace Go.Ab
section
variable {P:Program} {w w':World} {σ σ':Nat→Nat} {S:Store} {β:Hs}
def qw(w:World)(σ:Nat→Nat)(lo hi b:Nat):Prop:=∃c t fz m,w.heap[b]? =some (.cells c t fz)∧σ b=c.size+1+m∧lo≤m∧m<hi
theorem qw.mono{lo hi lo' hi' b:Nat}(h:qw w σ lo hi b)(h1:lo'≤lo)(h2:hi≤hi'):qw w σ lo' hi' b:=by
 obtain⟨c,t,fz,m,a1,a2,a3,a4⟩:=h
 exact⟨c,t,fz,m,a1,a2,by omega,by omega⟩
theorem qw.apart{lo hi lo' hi' b:Nat}(h:qw w σ lo hi b)(h':qw w σ lo' hi' b)(ho:hi≤lo'):False:=by
 obtain⟨c,t,fz,m,a1,a2,a3,a4⟩:=h
 obtain⟨c',t',Nf,m',b1,b2,b3,b4⟩:=h'
 rw[a1] at b1;cases b1
 omega
abbrev Kids:=List (List (Option Value))
def mP(rows:Kids)(i o:Nat):Option Value:=((rows[i]?).bind fun r=>r[o]?).bind id
def ZJ(rows:Kids):Array Value:=(rows.map fun r=>Value.tuple (r.map fun u=>u.getD (.bool false)).toArray).toArray
def mkT(v:Value)(rows:Kids):Value:=.tuple #[v,.tuple (ZJ rows)]
theorem Rw{v:Value}{rows:Kids}:hdr (mkT v rows)=some v:=rfl
def IsT(v:Value):Prop:=∃a,v=.tuple a
theorem JN{v:Value}{rows:Kids}(h:∀i o u,mP rows i o=some u→IsT u)(i o:Nat):kid (mkT v rows) i o=mP rows i o:=by
 have h':=h i o
 unfold kid mkT ZJ mP at *
 simp only[List.getElem?_toArray,List.getElem?_cons_succ,List.getElem?_cons_zero,List.getElem?_map]
 cases hr:rows[i]? with
 |none=>rfl
 |some r=>
  rw[hr] at h'
  simp only[Option.map_some,List.getElem?_toArray,List.getElem?_map]
  cases hu:r[o]? with
  |none=>simp[hu]
  |some u=>
   simp only[Option.bind_some,hu,id] at h'
   cases u with
   |none=>simp[hu]
   |some u=>
    obtain⟨a,rfl⟩:=h' u rfl
    simp[hu]
def ML(w:World)(d:D)(v:Value)(u:Option Value):Prop:=
 match d with
 | .sl es=>∃T,u=some T∧IsT T∧hdr T=some v∧oU w es T
 |d=>u=none∧SD d v
theorem OI{z:Nat}:∀{rs:List (List D)} {n:Nat},(∀r∈fu rs n,r.length=z)→∀r∈rs,r.length=z
 |[],_,_,r,h=>by cases h
 |a::rs,n,ha,r,h=>by
  rw[fu] at ha
  rcases List.mem_cons.1 h with e|h
  ·subst e;rw[←eY r n];exact ha _ (by simp)
  ·exact OI (n:=n+jq a) (fun r hr=>ha r (by simp[hr])) r h
structure agp (w:World) (σ:Nat→Nat) (r:List D) (n m:Nat) (vals:Nat→Value) (us:List (Option Value)):Prop where
 len:us.length=r.length
 cell:∀(j:Nat) (d:D),r[j]? =some d→∃u,us[j]? =some u∧ML w d (vals j) u
 own:∀(j:Nat) (u:Value),us[j]? =some (some u)→∀b,lI u b→qw w σ n m b
 apart:∀(j j':Nat) (u u':Value) (b:Nat),j≠j'→us[j]? =some (some u)→us[j']? =some (some u')→lI u b→lI u' b→False
structure aeE (w:World) (σ:Nat→Nat) (z:Nat) (rs:List (List D)) (n m:Nat) (vals:Nat→Value) (U:Kids):Prop where
 cell:∀(i o:Nat) (d:D),cellAt rs i o=some d→∃u,((U[i]?).bind fun r=>r[o]?)=some u∧ML w d (vals (i*z+o)) u
 kid:∀(i o:Nat) (u:Value),mP U i o=some u→∃es,cellAt rs i o=some (.sl es)
 own:∀(i o:Nat) (u:Value),mP U i o=some u→∀b,lI u b→qw w σ n m b
 apart:∀(i o i' o':Nat) (u u':Value) (b:Nat),(i,o)≠(i',o')→mP U i o=some u→mP U i' o'=some u'→lI u b→lI u' b→False
theorem vK{us:List (Option Value)}{U:Kids}{o:Nat}{u:Value}:mP (us::U) 0 o=some u↔us[o]? =some (some u):=by
 show(us[o]?).bind id=some u↔_
 cases us[o]? with
 |none=>simp
 |some x=>simp
mutual
theorem aeF:∀(d:D) (n:Nat) (v:Value),qB d=true→eH w σ (eU d n) v→∃u,ML w d v u∧∀T,u=some T→∀b,lI T b→qw w σ n (n+jy d) b
 | .sl es,n,v,hp,h=>by
   rw[eU] at h
   have hl:=gB es (n+1)
   have hrec:=Wm es (n+1)
   have hrow:=fun z=>OI (z:=z) (rs:=es) (n:=n+1)
   generalize fu es (n+1)=q at h hl hrec hrow
   have hempty:∀a cap,es=[]→v=.slice a 0 cap→∃u,ML w (.sl es) v u∧∀T,u=some T→∀b,lI T b→qw w σ n (n+jy (.sl es)) b:=by
    rintro a cap rfl rfl
    have hk:∀i o,kid (mkT (.slice a 0 cap) []) i o=none:=fun i o=>by rw[JN (fun i o u h=>by simp[mP] at h)];simp[mP]
    refine⟨some (mkT (.slice a 0 cap) []),⟨_,rfl,⟨_,rfl⟩,rfl,.nil a cap _ rfl hk⟩,fun T hT b hb=> ?_⟩
    cases hT
    exfalso
    cases hb with
    |here h1 h2=>rw[Rw] at h1;cases h1;omega
    |kid h1 h2=>rw[hk] at h1;cases h1
   cases h with
   |xJ n a cap=>exact hempty a cap (List.eq_nil_of_length_eq_zero (by simpa using hl.symm)) rfl
   |ol n b off cap z q vals c t hcap hlen hb hσ hfit hc hv=>
    by_cases hne:es=[]
    ·subst hne
     have hq0:q.length=0:=by simpa using hl
     exact hempty _ _ rfl (by rw[hq0])
    rw[hl] at hcap hfit hc ⊢
    obtain⟨U,hU⟩:=hrec z vals (hrow z hlen) (by simpa [qB] using hp) hv
    have hrl:=hrow z hlen
    have hT:∀i o u,mP U i o=some u→IsT u:=fun i o u hu=>by
     obtain⟨es',he⟩:=hU.kid i o u hu
     obtain⟨u',h1,h2⟩:=hU.cell i o _ he
     obtain⟨T,h3,h4,_⟩:=h2
     unfold mP at hu
     rw[h1,h3] at hu
     cases hu;exact h4
    have rJ:∀i o,kid (mkT (.slice (some ⟨b,off,none⟩) es.length cap) U) i o=mP U i o:=JN hT
    have hcell:∀i o es',cellAt es i o=some (.sl es')→∃T,mP U i o=some T∧hdr T=some (vals (i*z+o))∧oU w es' T:=fun i o es' he=>by
     obtain⟨u',h1,T,h3,h4,h5,h6⟩:=hU.cell i o _ he
     refine⟨T,?_,h5,h6⟩
     unfold mP
     rw[h1,h3];rfl
    have hself:∀x,qw w σ (n+1) (n+1+dG es) x→x≠b:=by
     rintro x ⟨c',t',Nf,m,a1,a2,a3,a4⟩ rfl
     rw[hb] at a1;cases a1
     omega
    refine⟨some (mkT (.slice (some ⟨b,off,none⟩) es.length cap) U),⟨_,rfl,⟨_,rfl⟩,rfl,?_⟩,fun T hT' x hx=> ?_⟩
    ·refine .mk b off cap z es _ c t (fun i o=>vals (i*z+o)) (fun i o=>(mP U i o).getD undef) rfl hne hcap hrl hb hfit (fun i o d hd=> ?_) (fun i o d hd=> ?_) (fun i o es' he=> ?_) (fun i o es' he=> ?_) (fun i o u hu hb'=> ?_) (fun i o i' o' u u' x ZK hu hu' h1 h2=> ?_) (fun i o u hu=> ?_)
     ·obtain⟨hi,ho⟩:=vZ hd
      rw[hrl _ (List.getElem_mem hi)] at ho
      refine hc _ ?_
      have:(i+1)*z≤es.length*z:=Nat.mul_le_mul_right _ hi
      rw[Nat.add_mul,Nat.one_mul] at this
      omega
     ·obtain⟨u,h1,h2⟩:=hU.cell i o d hd
      cases d<;>first|exact .inl ⟨_,rfl⟩|exact .inr h2.2
     ·obtain⟨T,h1,h2,h3⟩:=hcell i o es' he
      rw[rJ,h1]
      exact⟨rfl,h2⟩
     ·obtain⟨T,h1,h2,h3⟩:=hcell i o es' he
      rw[h1];exact h3
     ·rw[rJ] at hu
      exact hself b (hU.own i o u hu b hb') rfl
     ·rw[rJ] at hu hu'
      exact hU.apart i o i' o' u u' x ZK hu hu' h1 h2
     ·rw[rJ] at hu
      exact hU.kid i o u hu
    ·cases hT'
     cases hx with
     |here h1 h2=>rw[Rw] at h1;cases h1;exact⟨c,t,(0,0),n,hb,hσ,Nat.le_refl _,by rw[jy];omega⟩
     |kid h1 h2=>
      rw[rJ] at h1
      exact(hU.own _ _ _ h1 _ h2).mono (by omega) (by rw[jy];omega)
 | .ol m es,n,v,hp,h=>by simp[qB] at hp
 | .b x,n,v,hp,h=>by rw[eU] at h;cases h;exact⟨none,⟨rfl,rfl⟩,fun T h=>by cases h⟩
 | .i k x,n,v,hp,h=>by rw[eU] at h;cases h;exact⟨none,⟨rfl,rfl⟩,fun T h=>by cases h⟩
 | .s l,n,v,hp,h=>by rw[eU] at h;cases h;exact⟨none,⟨rfl,rfl⟩,fun T h=>by cases h⟩
 | .o u,n,v,hp,h=>by simp[qB] at hp
theorem MN:∀(r:List D) (n:Nat) (vals:Nat→Value),jJ r=true→(∀(j:Nat) (d:D),(dR r n)[j]? =some d→eH w σ d (vals j))→∃us,agp w σ r n (n+jq r) vals us
 |[],n,vals,hp,h=>⟨[],rfl,fun j d h=>by simp at h,fun j u h=>by simp at h,fun j j' u u' b _ h=>by simp at h⟩
 |d::r,n,vals,hp,h=>by
  rw[jJ,Bool.and_eq_true] at hp
  rw[dR] at h
  obtain⟨u,h1,h2⟩:=aeF d n (vals 0) hp.1 (h 0 _ rfl)
  obtain⟨us,rW⟩:=MN r (n+jy d) (fun j=>vals (j+1)) hp.2 fun j x hx=>h (j+1) x hx
  rw[jq]
  have hown:∀(j:Nat) (T:Value),us[j]? =some (some T)→∀b,lI T b→qw w σ (n+jy d) (n+jy d+jq r) b:=rW.own
  refine⟨u::us,by rw[List.length_cons,List.length_cons,rW.len],fun j x hx=> ?_,fun j T hT b hb=> ?_,fun j j' T T' b hj hT hT' hb hb'=> ?_⟩
  ·cases j with
   |zero=>simp at hx;subst hx;exact⟨u,rfl,h1⟩
   |succ j=>exact rW.cell j x hx
  ·cases j with
   |zero=>simp at hT;exact(h2 T hT b hb).mono (Nat.le_refl _) (by omega)
   |succ j=>exact(hown j T hT b hb).mono (by omega) (by omega)
  ·cases j with
   |zero=>
    cases j' with
    |zero=>exact hj rfl
    |succ j'=>simp at hT;exact(h2 T hT b hb).apart (hown j' T' hT' b hb') (Nat.le_refl _)
   |succ j=>
    cases j' with
    |zero=>simp at hT';exact(h2 T' hT' b hb').apart (hown j T hT b hb) (Nat.le_refl _)
    |succ j'=>exact rW.apart j j' T T' b (by omega) hT hT' hb hb'
theorem Wm:∀(rs:List (List D)) (n z:Nat) (vals:Nat→Value),(∀r∈rs,r.length=z)→jT rs=true→(∀(j:Nat) (d:D),(fu rs n).flatten[j]? =some d→eH w σ d (vals j))→∃U,aeE w σ z rs n (n+dG rs) vals U
 |[],n,z,vals,hz,hp,h=>⟨[],fun i o d h=>by simp[cellAt] at h,fun i o u h=>by simp[mP] at h,fun i o u h=>by simp[mP] at h,fun i o i' o' u u' b _ h=>by simp[mP] at h⟩
 |r::rs,n,z,vals,hz,hp,h=>by
  rw[jT,Bool.and_eq_true] at hp
  rw[fu,List.flatten_cons] at h
  have hrz:r.length=z:=hz r (by simp)
  obtain⟨us,rW⟩:=MN r n vals hp.1 fun j d hd=>h j d (by rw[List.getElem?_append_left (List.getElem?_eq_some_iff.1 hd).1];exact hd)
  obtain⟨U,hU⟩:=Wm rs (n+jq r) z (fun j=>vals (z+j)) (fun r hr=>hz r (by simp[hr])) hp.2 fun j d hd=>h (z+j) d (by
   rw[List.getElem?_append_right (by rw[eY];omega),eY,hrz,Nat.add_sub_cancel_left];exact hd)
  rw[dG]
  have hown:∀(i o:Nat) (T:Value),mP U i o=some T→∀b,lI T b→qw w σ (n+jq r) (n+jq r+dG rs) b:=hU.own
  refine⟨us::U,fun i o d hd=> ?_,fun i o u hu=> ?_,fun i o T hT b hb=> ?_,fun i o i' o' T T' b ZK hT hT' hb hb'=> ?_⟩
  ·cases i with
   |zero=>
    obtain⟨u,h1,h2⟩:=rW.cell o d hd
    exact⟨u,h1,by rw[Nat.zero_mul,Nat.zero_add];exact h2⟩
   |succ i=>
    obtain⟨u,h1,h2⟩:=hU.cell i o d hd
    exact⟨u,h1,by rw[show(i+1)*z+o=z+(i*z+o) by rw[Nat.add_mul];omega];exact h2⟩
  ·cases i with
   |zero=>
    rw[vK] at hu
    have ho:o<r.length:=by rw[←rW.len];exact(List.getElem?_eq_some_iff.1 hu).1
    obtain⟨u',h1,h2⟩:=rW.cell o r[o] (List.getElem?_eq_getElem ho)
    rw[hu] at h1;cases h1
    have hc:cellAt (r::rs) 0 o=some r[o]:=List.getElem?_eq_getElem ho
    rw[hc]
    generalize r[o]=d at h2
    cases d<;>first|exact⟨_,rfl⟩|(cases h2.1)
   |succ i=>exact hU.kid i o u hu
  ·cases i with
   |zero=>rw[vK] at hT;exact(rW.own o T hT b hb).mono (Nat.le_refl _) (by omega)
   |succ i=>exact(hown i o T hT b hb).mono (by omega) (by omega)
  ·cases i with
   |zero=>
    rw[vK] at hT
    cases i' with
    |zero=>rw[vK] at hT';exact rW.apart o o' T T' b (fun e=>ZK (by rw[e])) hT hT' hb hb'
    |succ i'=>exact(rW.own o T hT b hb).apart (hown i' o' T' hT' b hb') (Nat.le_refl _)
   |succ i=>
    cases i' with
    |zero=>rw[vK] at hT';exact(rW.own o' T' hT' b hb').apart (hown i o T hT b hb) (Nat.le_refl _)
    |succ i'=>exact hU.apart i o i' o' T T' b (fun e=>ZK (by cases e;rfl)) hT hT' hb hb'
end
end
end Go.Ab
namespace Go.Ab
section
variable {P:Program} {w w':World} {σ σ':Nat→Nat} {S:Store} {β:Hs}
def um:D→List (List D)
 | .sl es=>es
 |_=>[]
def MO(k:Key)(j:Nat):D→C
 | .sl _=>.xp k j []
 |d=>.d d
def zX(k:Key):Nat→List D→List C
 |_,[]=>[]
 |j,d::ds=>MO k j d::zX k (j+1) ds
theorem uh{k:Key}:∀(j:Nat) (r:List D),(zX k j r).length=r.length
 |_,[]=>rfl
 |j,d::ds=>by rw[zX,List.length_cons,uh,List.length_cons]
theorem JO{k:Key}:∀(r:List D) (j i:Nat),(zX k j r)[i]? =(r[i]?).map (MO k (j+i))
 |[],j,i=>by simp[zX]
 |d::ds,j,0=>rfl
 |d::ds,j,i+1=>by
  rw[zX,List.getElem?_cons_succ,List.getElem?_cons_succ,JO ds (j+1) i,show j+1+i=j+(i+1) by omega]
def TJ:C→C
 | .d x=>.d x
 | .bD es=>.d (.sl es)
 | .bU _ es=>.d (.sl es)
 | .kT n es=>.d (.ol n es)
 | .lH cs=>.lH cs
 |_=>.any
def TK:V→V
 | .c x=>.c (TJ x)
 | .agg cs=>.agg (cs.map TJ)
 |_=>.any
theorem K6{c:C}{v:Value}(h:iH w σ S β c v)(S':Store)(β':Hs):iH w σ S' β' (TJ c) v:=by
 cases c with
 |d x=>exact h
 |bD es=>exact h.1
 |bU k es=>exact h.1
 |kT n es=>exact h.1
 |lH cs=>exact h
 |_=>trivial
theorem YT{x:V}{v:Value}(h:dQ w σ S β x v)(S':Store)(β':Hs):dQ w σ S' β' (TK x) v:=by
 cases x with
 |c x=>exact⟨K6 h.1 _ _,h.2⟩
 |agg cs=>
  obtain⟨a,ha,hl,hc⟩:=h
  refine⟨a,ha,by rw[List.length_map];exact hl,fun i x hx=> ?_⟩
  rw[List.getElem?_map] at hx
  cases hi:cs[i]? with
  |none=>rw[hi] at hx;cases hx
  |some y=>
   rw[hi] at hx;cases hx
   obtain⟨u,q1,q2,q3⟩:=hc i y hi
   exact⟨u,q1,K6 q2 _ _,q3⟩
 |_=>trivial
theorem BL(hl:∀b,b<w.heap.size∨σ b=0)(hg:AY w σ):fC w σ [] [] where
 tO:=hg
 obj:=fun k o h=>by rw[nV] at h;cases h
 apart:=fun k k' o o' h h' b h1=>by rw[nV] at h1;cases h1
 shape:=⟨rfl,fun l fr h=>by simp at h⟩
 live:=hl
theorem yG{β:Hs}{b:Nat}:¬Own [] β b:=fun⟨k,o,h,h1,_⟩=>by rw[nV] at h1;cases h1
def OJ(mk:List C→V)(m:Nat):Prop:=∀w σ S β cs v,cs.length=m→dQ w σ S β (mk cs) v→∃vs,gN w σ S β cs vs∧∀w' σ' S' β' cs',cs'.length=m→gN w' σ' S' β' cs' vs→dQ w' σ' S' β' (mk cs') v
theorem Ir{m:Nat}:OJ V.agg m:=fun w σ S β cs v _ ⟨a,ha,hc⟩=>⟨a.toList,hc,fun w' σ' S' β' cs' _ hc'=>⟨a,ha,hc'⟩⟩
def Wn:C→Bool
 | .d d=>dW d
 |_=>false
theorem TL{c:C}{v:Value}(h:Wn c=true)(hr:iH w σ S β c v)(w':World)(σ':Nat→Nat)(S':Store)(β':Hs):iH w' σ' S' β' c v:=by
 cases c with
 |d d=>cases d<;>first|(cases h;done)|(cases hr;constructor)
 |_=>cases h
def sP:Value:=mkT (.slice none 0 0) []
theorem Dt(i o:Nat):kid sP i o=none:=by
 unfold sP
 rw[JN (fun i o u h=>by simp[mP] at h)];simp[mP]
theorem tF{b:Nat}:¬lI sP b:=fun h=>by
 cases h with
 |here h1 h2=>cases h1
 |kid h1 h2=>rw[Dt] at h1;cases h1
theorem FU(σ:Nat→Nat):∀n:Nat,∃m,∀b,b<n→σ b≤m
 |0=>⟨0,fun b h=>by omega⟩
 |n+1=>by
  obtain⟨m,hm⟩:=FU σ n
  refine⟨max m (σ n),fun b hb=> ?_⟩
  by_cases e:b=n
  ·subst e;omega
  ·have:=hm b (by omega);omega
open Classical in
theorem dh.own{f:FuncId}{args:List V}{bT:List Obj}{Ω:Store}{mk:List C→V}{r:List D}(hm:OJ mk r.length)(hp:jJ r=true)
 (h:∀n,aG P f (args.map TK) (mk ((dR r n).map .d))):
 dh P f args (bT::Ω) (fun r' S'=>r'=mk (zX (0,bT.length) 0 r)∧S'=(bT++[.xf (r.map um)])::Ω):=by
 refine⟨(h 0 []).1,fun w σ β vs hS hargs=> ?_⟩
 obtain⟨n,hn⟩:=FU σ w.heap.size
 have Wo:oq w σ [] [] (args.map TK) vs:=by
  refine⟨by rw[List.length_map];exact hargs.1,fun j x hx=> ?_⟩
  rw[List.getElem?_map] at hx
  cases ha:args[j]? with
  |none=>rw[ha] at hx;cases hx
  |some y=>
   rw[ha] at hx;cases hx
   obtain⟨v,h1,h2⟩:=hargs.2 j y ha
   exact⟨v,h1,YT h2 _ _⟩
 refine((h n []).2 w σ [] vs (BL hS.live hS.tO) Wo).mono fun e w' ⟨v,r',S',σ',β',he,hS',hk,hst,hv,hr',hS2⟩=> ?_
 subst hr';subst hS2
 obtain⟨OL,hcs,hback⟩:=hm w' σ' _ β' _ v (by rw[List.length_map,eY]) hv
 have YU:OL.length=r.length:=by rw[←hcs.1,List.length_map,eY]
 obtain⟨us,rW⟩:=MN r n (fun j=>OL.getD j undef) hp (fun j d hd=>by
  obtain⟨u,h1,h2,_⟩:=hcs.2 j (.d d) (by rw[List.getElem?_map,hd];rfl)
  simp only[List.getD_eq_getElem?_getD,h1,Option.getD_some]
  exact h2)
 let h0:Value:=.tuple (us.map fun u=>u.getD sP).toArray
 have hroot:∀j,rY h0 j=(us[j]?).map fun u=>u.getD sP:=fun j=>by simp[h0,rY]
 have hfresh:∀b,jd h0 b→w.heap.size≤b:=by
  rintro b ⟨j,T,h1,h2⟩
  rw[hroot] at h1
  cases hu:us[j]? with
  |none=>rw[hu] at h1;cases h1
  |some u=>
   rw[hu] at h1
   simp only[Option.map_some,Option.some.injEq] at h1
   cases u with
   |none=>subst h1;exact absurd h2 tF
   |some u=>
    simp at h1;subst h1
    obtain⟨c,t,fz,m,a1,a2,a3,a4⟩:=rW.own j u hu b h2
    refine Nat.le_of_not_lt fun hlt=> ?_
    have h1:=(hst.far b hlt yG).2
    have h2:=hn b hlt
    omega
 let σ2:Nat→Nat:=fun b=>if jd h0 b then 0 else σ' b
 have hg:Grow w σ w' σ2:=⟨hst.size,hst.os,hst.output,fun b hb=>by
  obtain⟨h1,h2⟩:=hst.far b hb yG
  exact⟨h1,(if_neg fun hx=>by have:=hfresh b hx;omega).trans h2⟩,fun b=>by
  rcases hS'.live b with hb|hb
  ·exact .inl hb
  ·right;show(if jd h0 b then 0 else σ' b)=0;rw[hb];split<;>rfl⟩
 cases β with
 |nil=>have:=hS.shape.1;simp at this
 |cons bo bΩ=>
 have hlen:bo.length=bT.length:=by
  obtain⟨gr,g1,g2⟩:=hS.shape.2 0 bT rfl
  simp at g1;rw[g1];exact g2
 obtain⟨hS3,hk3,YV⟩:=hS.push (o:=.xf (r.map um)) (h:=h0) hg hlen (by
  refine⟨fun j es hj=> ?_,fun j T hT=> ?_,fun b hb=>if_pos hb,fun j j' T T' x hjj hT hT' hx hx'=> ?_⟩
  ·rw[List.getElem?_map] at hj
   cases hd:r[j]? with
   |none=>rw[hd] at hj;cases hj
   |some d=>
    rw[hd] at hj
    simp only[Option.map_some,Option.some.injEq] at hj
    subst hj
    obtain⟨u,h1,h2⟩:=rW.cell j d hd
    rw[hroot,h1]
    have hsc:(∀es,d≠ .sl es)→∃T,Option.map (fun u=>Option.getD u sP) (some u)=some T∧oU w' (um d) T:=fun hne=>by
     have hu:u=none:=by cases d<;>first|exact absurd rfl (hne _)|exact h2.1
     have hr0:um d=[]:=by cases d<;>first|exact absurd rfl (hne _)|rfl
     subst hu
     rw[hr0]
     exact⟨sP,rfl,.nil none 0 _ rfl Dt⟩
    cases d with
    |sl es=>obtain⟨T,rfl,_,_,h6⟩:=h2;exact⟨T,rfl,h6⟩
    |_=>exact hsc (fun es e=>by cases e)
  ·rw[List.length_map]
   rw[hroot] at hT
   cases hu:us[j]? with
   |none=>rw[hu] at hT;cases hT
   |some u=>rw[←rW.len];exact(List.getElem?_eq_some_iff.1 hu).1
  ·rw[hroot] at hT hT'
   cases hu:us[j]? with
   |none=>rw[hu] at hT;cases hT
   |some u=>
    cases hu':us[j']? with
    |none=>rw[hu'] at hT';cases hT'
    |some u'=>
     rw[hu] at hT;rw[hu'] at hT'
     simp only[Option.map_some,Option.some.injEq] at hT hT'
     cases u with
     |none=>subst hT;exact tF hx
     |some u=>
      cases u' with
      |none=>subst hT';exact tF hx'
      |some u'=>simp at hT hT';subst hT;subst hT';exact rW.apart j j' u u' x hjj hu hu' hx hx') (fun b hb=>hfresh b hb)
 refine⟨v,_,_,σ2,(bo++[h0])::bΩ,he,hS3,hk3,YV,?_,rfl,rfl⟩
 refine hback _ _ _ _ _ (by rw[uh]) ⟨by rw[uh,YU],fun j x hx=> ?_⟩
 rw[JO,Nat.zero_add] at hx
 cases hd:r[j]? with
 |none=>rw[hd] at hx;cases hx
 |some d=>
  rw[hd] at hx
  simp only[Option.map_some,Option.some.injEq] at hx
  obtain⟨u,h1,h2⟩:=rW.cell j d hd
  have hjl:j<(dR r n).length:=by rw[eY];exact(List.getElem?_eq_some_iff.1 hd).1
  obtain⟨v0,h3,_,h4⟩:=hcs.2 j (.d (dR r n)[j]) (by rw[List.getElem?_map,List.getElem?_eq_getElem hjl];rfl)
  have hv0:OL.getD j undef=v0:=by rw[List.getD_eq_getElem?_getD,h3];rfl
  simp only[hv0] at h2
  refine⟨v0,h3,?_,h4⟩
  have hsc:(∀es,d≠ .sl es)→iH w' σ2 ((bT++[.xf (r.map um)])::Ω) ((bo++[h0])::bΩ) (.d d) v0:=fun hne=>by
   have:SD d v0:=by cases d<;>first|exact absurd rfl (hne _)|exact h2.2
   exact Gq this
  cases d with
  |sl es=>
   subst hx
   obtain⟨T,rfl,_,h5,_⟩:=h2
   refine⟨_,dJ _ _ _,fun rs _=>⟨h0,by rw[←hlen,dJ],?_⟩⟩
   unfold yg
   rw[hroot,h1]
   exact h5
  |_=>subst hx;exact hsc (fun es e=>by cases e)
end
end Go.Ab
namespace Go.Ab
section
variable {P:Program} {w w':World} {σ σ':Nat→Nat} {S:Store} {β:Hs}
def acg(r:V):Prop:=∀w σ σ2 S β S2 β2 v,(∀b c t fz,w.heap[b]? =some (.cells c t fz)→c.size<σ b→σ2 b=σ b)→dQ w σ S β r v→dQ w σ2 S2 β2 r v
mutual
theorem agq{σ2:Nat→Nat}(hs:∀b c t fz,w.heap[b]? =some (.cells c t fz)→c.size<σ b→σ2 b=σ b):∀(d:D) (n:Nat) (v:Value),qB d=true→eH w σ (eU d n) v→eH w σ2 (eU d n) v
 | .sl es,n,v,hp,h=>by
   rw[eU] at h ⊢
   have hrec:=ZL hs es (n+1)
   generalize fu es (n+1)=q at h hrec ⊢
   cases h with
   |xJ n a cap=>exact .xJ n a cap
   |ol n b off cap z q vals c t hcap hlen hb hσ hfit hc hv=>exact .ol n b off cap z q vals c t hcap hlen hb ((hs b c t _ hb (by omega)).trans hσ) hfit hc (hrec vals (by simpa [qB] using hp) hv)
 | .ol m es,n,v,hp,h=>by simp[qB] at hp
 | .b x,n,v,hp,h=>by rw[eU] at h ⊢;cases h;constructor
 | .i k x,n,v,hp,h=>by rw[eU] at h ⊢;cases h;constructor
 | .s l,n,v,hp,h=>by rw[eU] at h ⊢;cases h;constructor
 | .o u,n,v,hp,h=>by simp[qB] at hp
theorem ach{σ2:Nat→Nat}(hs:∀b c t fz,w.heap[b]? =some (.cells c t fz)→c.size<σ b→σ2 b=σ b):∀(r:List D) (n:Nat) (vals:Nat→Value),jJ r=true→(∀(j:Nat) (d:D),(dR r n)[j]? =some d→eH w σ d (vals j))→
 ∀(j:Nat) (d:D),(dR r n)[j]? =some d→eH w σ2 d (vals j)
 |[],n,vals,hp,h,j,d,hd=>by simp[dR] at hd
 |a::r,n,vals,hp,h,j,d,hd=>by
  rw[jJ,Bool.and_eq_true] at hp
  rw[dR] at h hd
  cases j with
  |zero=>
   simp at hd;subst hd
   exact agq hs a n _ hp.1 (h 0 _ rfl)
  |succ j=>exact ach hs r (n+jy a) (fun i=>vals (i+1)) hp.2 (fun i d hi=>h (i+1) d hi) j d hd
theorem ZL{σ2:Nat→Nat}(hs:∀b c t fz,w.heap[b]? =some (.cells c t fz)→c.size<σ b→σ2 b=σ b):∀(rs:List (List D)) (n:Nat) (vals:Nat→Value),jT rs=true→(∀(j:Nat) (d:D),(fu rs n).flatten[j]? =some d→eH w σ d (vals j))→
 ∀(j:Nat) (d:D),(fu rs n).flatten[j]? =some d→eH w σ2 d (vals j)
 |[],n,vals,hp,h,j,d,hd=>by simp[fu] at hd
 |r::rs,n,vals,hp,h,j,d,hd=>by
  rw[jT,Bool.and_eq_true] at hp
  rw[fu,List.flatten_cons] at h hd
  by_cases hj:j<(dR r n).length
  ·rw[List.getElem?_append_left hj] at hd
   exact ach hs r n vals hp.1 (fun j d hd=>h j d (by rw[List.getElem?_append_left (List.getElem?_eq_some_iff.1 hd).1];exact hd)) j d hd
  ·rw[List.getElem?_append_right (by omega)] at hd
   have:=ZL hs rs (n+jq r) (fun i=>vals ((dR r n).length+i)) hp.2 (fun j d hd=>h _ d (by rw[List.getElem?_append_right (by omega),Nat.add_sub_cancel_left];exact hd)) (j-(dR r n).length) d hd
   rwa [show(dR r n).length+(j-(dR r n).length)=j by omega] at this
end
theorem BM{c:C}(h:Wn c=true):acg (.c c):=fun w σ σ2 S β S2 β2 v _ hv=>⟨TL h hv.1 _ _ _ _,hv.2⟩
theorem oU.data{es:List (List D)}{T v:Value}(h:oU w es T)(hv:hdr T=some v)(hσ:∀b c t fz,lI T b→w.heap[b]? =some (.cells c t fz)→c.size≤σ b):eH w σ (.sl es) v:=by
 induction h generalizing v with
 |nil a cap T h hk=>rw[h] at hv;cases hv;exact .nil a cap
 |mk b off cap z es T c t vals kids hh hne hcap hlen hb hfit hc hs hk hx hself hap rJ ih=>
  rw[hh] at hv;cases hv
  have hpos:0<es.length:=List.length_pos_iff.2 hne
  have hfl:=lQ es z hlen
  have hidx:∀j,j<es.length*z→∃hi:j/z<es.length,j % z<z∧j/z*z+j % z=j:=fun j hj=>by
   have hz:0<z:=by rcases Nat.eq_zero_or_pos z with h|h;·rw[h] at hj;simp at hj
                   ·exact h
   exact⟨(Nat.div_lt_iff_lt_mul hz).2 hj,Nat.mod_lt _ hz,by rw[Nat.mul_comm];exact Nat.div_add_mod j z⟩
  have hcell:∀j d,es.flatten[j]? =some d→∃hi:j/z<es.length,cellAt es (j/z) (j % z)=some d∧j/z*z+j % z=j:=fun j d hd=>by
   have hj:j<es.length*z:=by rw[←hfl];exact(List.getElem?_eq_some_iff.1 hd).1
   obtain⟨hi,hm,he⟩:=hidx j hj
   refine⟨hi,?_,he⟩
   have:=flat_get es z hlen (j/z) (j % z) hi hm
   rw[he,hd] at this
   unfold cellAt
   rw[List.getElem?_eq_getElem hi]
   exact this.symm
  refine .sl b off cap z es (fun j=>vals (j/z) (j % z)) c t (0,0) hcap hlen hb (Nat.le_trans hfit (hσ b c t _ (.here hh hpos) hb)) (fun j hj=> ?_) (fun j d hd=> ?_)
  ·obtain⟨hi,hce,he⟩:=hcell j _ (List.getElem?_eq_getElem (by rw[hfl];exact hj))
   have:=hc _ _ _ hce
   rwa [he] at this
  ·obtain⟨hi,hce,he⟩:=hcell j d hd
   rcases hs _ _ _ hce with⟨es',rfl⟩|hsd
   ·obtain⟨k1,k2⟩:=hk _ _ _ hce
    exact ih _ _ _ hce k2 fun b' c' t' Nf ho hb'=>hσ b' c' t' Nf (.kid k1 ho) hb'
   ·exact Gq hsd
def Eo(k:Key)(rs:List (List (List D))):C→C
 | .xp k' r []=>if k'=k then(match rs[r]? with|some es=>.d (.sl es)|none=>.any) else .any
 | .d x=>.d x
 |_=>.any
def Iu(k:Key)(rs:List (List (List D))):V→V
 | .c x=>.c (Eo k rs x)
 | .agg cs=>.agg (cs.map (Eo k rs))
 |_=>.any
open Classical in
theorem dh.lend{f:FuncId}{args:List V}{k:Key}{rs:List (List (List D))}{r:V}(hk:bM S k=some (.xf rs))(hr:acg r)(h:aG P f (args.map (Iu k rs)) r):dh P f args S (fun r' S'=>r'=r∧S'=S):=by
 refine⟨(h S).1,fun w σ β vs hS hargs=> ?_⟩
 obtain⟨hh,hb,xM⟩:=hS.obj k _ hk
 obtain⟨hX1,hX2,Cg,Ri⟩:=xM
 let xG:Nat→Nat:=fun b=>match w.heap[b]? with
  |some (.cells c _ _)=>c.size
  |_=>0
 have OM:∀b c t fz,w.heap[b]? =some (.cells c t fz)→xG b=c.size:=fun b c t fz e=>by simp[xG,e]
 have hXlt:∀b,jd hh b→b<w.heap.size:=fun b hb'=>vV (o:=.xf rs) (S:=S) (β:=β) ⟨hX1,hX2,Cg,Ri⟩ hb'
 let σ1:Nat→Nat:=fun b=>if jd hh b then xG b else σ b
 have hn1:fZ w σ w σ1:=fun b c t fz e=>by
  refine⟨?_,fun hlt=> ?_,c,e,rfl,fun _ _=>rfl⟩
  ·show σ b≤if jd hh b then xG b else σ b
   split
   ·rename_i hx;rw[Cg b hx];exact Nat.zero_le _
   ·exact Nat.le_refl _
  ·show(if jd hh b then xG b else σ b)=σ b
   rw[if_neg fun hx=>by have:=Cg b hx;omega]
 have hS1:fC w σ1 [] []:=by
  refine BL (fun b=> ?_) (hS.tO.near hn1)
  by_cases hx:jd hh b
  ·exact .inl (hXlt b hx)
  ·rcases hS.live b with h'|h'
   ·exact .inl h'
   ·right;show(if jd hh b then xG b else σ b)=0;rw[if_neg hx];exact h'
 have hlc:∀c v,iH w σ S β c v→iH w σ1 [] [] (Eo k rs c) v:=by
  intro c v hc
  unfold Eo
  split
  ·rename_i k' r'
   split
   ·rename_i e
    subst e
    split
    ·rename_i es hes
     obtain⟨o,ho,h2⟩:=hc
     rw[hk] at ho;cases ho
     obtain⟨h',e1,e2⟩:=h2 rs rfl
     rw[hb] at e1;cases e1
     obtain⟨T,q1,q2⟩:=hX1 r' es hes
     unfold yg at e2
     rw[q1] at e2
     refine q2.data e2 fun b c t fz ho hb'=> ?_
     show c.size≤if jd hh b then xG b else σ b
     rw[if_pos ⟨r',T,q1,ho⟩,OM b c t fz hb']
     exact Nat.le_refl _
    ·trivial
   ·trivial
  ·exact eH.mono hn1 hc
  ·trivial
 have Du:oq w σ1 [] [] (args.map (Iu k rs)) vs:=by
  refine⟨by rw[List.length_map];exact hargs.1,fun j x hx=> ?_⟩
  rw[List.getElem?_map] at hx
  cases ha:args[j]? with
  |none=>rw[ha] at hx;cases hx
  |some y=>
   rw[ha] at hx;cases hx
   obtain⟨v,h1,h2⟩:=hargs.2 j y ha
   refine⟨v,h1,?_⟩
   cases y with
   |c x=>exact⟨hlc x v h2.1,h2.2⟩
   |agg cs=>
    obtain⟨a,e,hl,hc⟩:=h2
    refine⟨a,e,by rw[List.length_map];exact hl,fun i x hx=> ?_⟩
    rw[List.getElem?_map] at hx
    cases hi:cs[i]? with
    |none=>rw[hi] at hx;cases hx
    |some y=>
     rw[hi] at hx;cases hx
     obtain⟨u,q1,q2,q3⟩:=hc i y hi
     exact⟨u,q1,hlc y u q2,q3⟩
   |_=>trivial
 refine((h []).2 w σ1 [] vs hS1 Du).mono fun e w' ⟨v,r',S',σ',β',he,hS',hk',hst,hv,hr',hS2⟩=> ?_
 subst hr';subst hS2
 let σ2:Nat→Nat:=fun b=>if jd hh b then 0 else σ' b
 have hg:Grow w σ w' σ2:=⟨hst.size,hst.os,hst.output,fun b hlt=>by
  obtain⟨h1,h2⟩:=hst.far b hlt yG
  refine⟨h1,?_⟩
  show(if jd hh b then 0 else σ' b)=σ b
  by_cases hx:jd hh b
  ·rw[if_pos hx,Cg b hx]
  ·rw[if_neg hx,h2]
   exact if_neg hx,fun b=>by
  rcases hS'.live b with h'|h'
  ·exact .inl h'
  ·right;show(if jd hh b then 0 else σ' b)=0;rw[h'];split<;>rfl⟩
 refine⟨v,_,_,σ2,β,he,hS.grow hg,Keep.refl _ _,Step.nN hg,?_,rfl,rfl⟩
 refine hr w' σ' σ2 _ _ _ _ v (fun b c t fz e hlt=> ?_) hv
 by_cases hx:jd hh b
 ·obtain⟨h1,h2⟩:=hst.far b (hXlt b hx) yG
  rw[h1] at e
  have:σ1 b=xG b:=if_pos hx
  rw[h2,this,OM b c t fz e] at hlt
  omega
 ·exact if_neg hx
end
end Go.Ab
namespace Go.Ab
section
variable {P:Program} {w w':World} {σ σ':Nat→Nat} {S:Store} {β:Hs}
open Classical in
theorem TM{args:List V}{k:Key}{rs:List (List (List D))}(hk:bM S k=some (.xf rs)){vs:List Value}(hS:fC w σ S β)(hargs:oq w σ S β args vs):
 ∃(σ1:Nat→Nat) (X:Nat→Prop),(∀b,¬X b→σ1 b=σ b)∧(∀b,X b→σ b=0∧b<w.heap.size)∧(∀b c t fz,X b→w.heap[b]? =some (.cells c t fz)→σ1 b≤c.size)∧fC w σ1 [] []∧oq w σ1 [] [] (args.map (Iu k rs)) vs:=by
 obtain⟨hh,hb,xM⟩:=hS.obj k _ hk
 obtain⟨hX1,hX2,Cg,Ri⟩:=xM
 let xG:Nat→Nat:=fun b=>match w.heap[b]? with
  |some (.cells c _ _)=>c.size
  |_=>0
 have OM:∀b c t fz,w.heap[b]? =some (.cells c t fz)→xG b=c.size:=fun b c t fz e=>by simp[xG,e]
 have hXlt:∀b,jd hh b→b<w.heap.size:=fun b hb'=>vV (o:=.xf rs) (S:=S) (β:=β) ⟨hX1,hX2,Cg,Ri⟩ hb'
 let σ1:Nat→Nat:=fun b=>if jd hh b then xG b else σ b
 have hn1:fZ w σ w σ1:=fun b c t fz e=>by
  refine⟨?_,fun hlt=> ?_,c,e,rfl,fun _ _=>rfl⟩
  ·show σ b≤if jd hh b then xG b else σ b
   split
   ·rename_i hx;rw[Cg b hx];exact Nat.zero_le _
   ·exact Nat.le_refl _
  ·show(if jd hh b then xG b else σ b)=σ b
   rw[if_neg fun hx=>by have:=Cg b hx;omega]
 have hS1:fC w σ1 [] []:=by
  refine BL (fun b=> ?_) (hS.tO.near hn1)
  by_cases hx:jd hh b
  ·exact .inl (hXlt b hx)
  ·rcases hS.live b with h'|h'
   ·exact .inl h'
   ·right;show(if jd hh b then xG b else σ b)=0;rw[if_neg hx];exact h'
 have hlc:∀c v,iH w σ S β c v→iH w σ1 [] [] (Eo k rs c) v:=by
  intro c v hc
  unfold Eo
  split
  ·rename_i k' r'
   split
   ·rename_i e
    subst e
    split
    ·rename_i es hes
     obtain⟨o,ho,h2⟩:=hc
     rw[hk] at ho;cases ho
     obtain⟨h',e1,e2⟩:=h2 rs rfl
     rw[hb] at e1;cases e1
     obtain⟨T,q1,q2⟩:=hX1 r' es hes
     unfold yg at e2
     rw[q1] at e2
     refine q2.data e2 fun b c t fz ho hb'=> ?_
     show c.size≤if jd hh b then xG b else σ b
     rw[if_pos ⟨r',T,q1,ho⟩,OM b c t fz hb']
     exact Nat.le_refl _
    ·trivial
   ·trivial
  ·exact eH.mono hn1 hc
  ·trivial
 have Du:oq w σ1 [] [] (args.map (Iu k rs)) vs:=by
  refine⟨by rw[List.length_map];exact hargs.1,fun j x hx=> ?_⟩
  rw[List.getElem?_map] at hx
  cases ha:args[j]? with
  |none=>rw[ha] at hx;cases hx
  |some y=>
   rw[ha] at hx;cases hx
   obtain⟨v,h1,h2⟩:=hargs.2 j y ha
   refine⟨v,h1,?_⟩
   cases y with
   |c x=>exact⟨hlc x v h2.1,h2.2⟩
   |agg cs=>
    obtain⟨a,e,hl,hc⟩:=h2
    refine⟨a,e,by rw[List.length_map];exact hl,fun i x hx=> ?_⟩
    rw[List.getElem?_map] at hx
    cases hi:cs[i]? with
    |none=>rw[hi] at hx;cases hx
    |some y=>
     rw[hi] at hx;cases hx
     obtain⟨u,q1,q2,q3⟩:=hc i y hi
     exact⟨u,q1,hlc y u q2,q3⟩
   |_=>trivial
 exact⟨σ1,fun b=>jd hh b,fun b hx=>if_neg hx,fun b hx=>⟨Cg b hx,hXlt b hx⟩,fun b c t fz hx e=>by
  show(if jd hh b then xG b else σ b)≤c.size
  rw[if_pos hx,OM b c t fz e]
  exact Nat.le_refl _,hS1,Du⟩
open Classical in
theorem dh.agr{f:FuncId}{args:List V}{bT:List Obj}{Ω:Store}{mk:List C→V}{r:List D}{k:Key}{rs:List (List (List D))}(hk:bM (bT::Ω) k=some (.xf rs))(hm:OJ mk r.length)(hp:jJ r=true)
 (h:∀n,aG P f (args.map (Iu k rs)) (mk ((dR r n).map .d))):
 dh P f args (bT::Ω) (fun r' S'=>r'=mk (zX (0,bT.length) 0 r)∧S'=(bT++[.xf (r.map um)])::Ω):=by
 refine⟨(h 0 []).1,fun w σ β vs hS hargs=> ?_⟩
 obtain⟨σ1,X,hl1,hl2,hl3,hS1,Du⟩:=TM hk hS hargs
 obtain⟨n,hn⟩:=FU σ1 w.heap.size
 refine((h n []).2 w σ1 [] vs hS1 Du).mono fun e w' ⟨v,r',S',σ',β',he,hS',hk,hst,hv,hr',hS2⟩=> ?_
 subst hr';subst hS2
 obtain⟨OL,hcs,hback⟩:=hm w' σ' _ β' _ v (by rw[List.length_map,eY]) hv
 have YU:OL.length=r.length:=by rw[←hcs.1,List.length_map,eY]
 obtain⟨us,rW⟩:=MN r n (fun j=>OL.getD j undef) hp (fun j d hd=>by
  obtain⟨u,h1,h2,_⟩:=hcs.2 j (.d d) (by rw[List.getElem?_map,hd];rfl)
  simp only[List.getD_eq_getElem?_getD,h1,Option.getD_some]
  exact h2)
 let h0:Value:=.tuple (us.map fun u=>u.getD sP).toArray
 have hroot:∀j,rY h0 j=(us[j]?).map fun u=>u.getD sP:=fun j=>by simp[h0,rY]
 have hfresh:∀b,jd h0 b→w.heap.size≤b:=by
  rintro b ⟨j,T,h1,h2⟩
  rw[hroot] at h1
  cases hu:us[j]? with
  |none=>rw[hu] at h1;cases h1
  |some u=>
   rw[hu] at h1
   simp only[Option.map_some,Option.some.injEq] at h1
   cases u with
   |none=>subst h1;exact absurd h2 tF
   |some u=>
    simp at h1;subst h1
    obtain⟨c,t,fz,m,a1,a2,a3,a4⟩:=rW.own j u hu b h2
    refine Nat.le_of_not_lt fun hlt=> ?_
    have h1:=(hst.far b hlt yG).2
    have h2:=hn b hlt
    omega
 let σ2:Nat→Nat:=fun b=>if jd h0 b then 0 else if X b then 0 else σ' b
 have hg:Grow w σ w' σ2:=⟨hst.size,hst.os,hst.output,fun b hb=>by
  obtain⟨h1,h2⟩:=hst.far b hb yG
  refine⟨h1,(if_neg fun hx=>by have:=hfresh b hx;omega).trans ?_⟩
  by_cases hx:X b
  ·rw[if_pos hx,(hl2 b hx).1]
  ·rw[if_neg hx,h2,hl1 b hx],fun b=>by
  rcases hS'.live b with hb|hb
  ·exact .inl hb
  ·right;show(if jd h0 b then 0 else if X b then 0 else σ' b)=0;rw[hb];split<;>first|rfl|(split<;>rfl)⟩
 cases β with
 |nil=>have:=hS.shape.1;simp at this
 |cons bo bΩ=>
 have hlen:bo.length=bT.length:=by
  obtain⟨gr,g1,g2⟩:=hS.shape.2 0 bT rfl
  simp at g1;rw[g1];exact g2
 obtain⟨hS3,hk3,YV⟩:=hS.push (o:=.xf (r.map um)) (h:=h0) hg hlen (by
  refine⟨fun j es hj=> ?_,fun j T hT=> ?_,fun b hb=>if_pos hb,fun j j' T T' x hjj hT hT' hx hx'=> ?_⟩
  ·rw[List.getElem?_map] at hj
   cases hd:r[j]? with
   |none=>rw[hd] at hj;cases hj
   |some d=>
    rw[hd] at hj
    simp only[Option.map_some,Option.some.injEq] at hj
    subst hj
    obtain⟨u,h1,h2⟩:=rW.cell j d hd
    rw[hroot,h1]
    have hsc:(∀es,d≠ .sl es)→∃T,Option.map (fun u=>Option.getD u sP) (some u)=some T∧oU w' (um d) T:=fun hne=>by
     have hu:u=none:=by cases d<;>first|exact absurd rfl (hne _)|exact h2.1
     have hr0:um d=[]:=by cases d<;>first|exact absurd rfl (hne _)|rfl
     subst hu
     rw[hr0]
     exact⟨sP,rfl,.nil none 0 _ rfl Dt⟩
    cases d with
    |sl es=>obtain⟨T,rfl,_,_,h6⟩:=h2;exact⟨T,rfl,h6⟩
    |_=>exact hsc (fun es e=>by cases e)
  ·rw[List.length_map]
   rw[hroot] at hT
   cases hu:us[j]? with
   |none=>rw[hu] at hT;cases hT
   |some u=>rw[←rW.len];exact(List.getElem?_eq_some_iff.1 hu).1
  ·rw[hroot] at hT hT'
   cases hu:us[j]? with
   |none=>rw[hu] at hT;cases hT
   |some u=>
    cases hu':us[j']? with
    |none=>rw[hu'] at hT';cases hT'
    |some u'=>
     rw[hu] at hT;rw[hu'] at hT'
     simp only[Option.map_some,Option.some.injEq] at hT hT'
     cases u with
     |none=>subst hT;exact tF hx
     |some u=>
      cases u' with
      |none=>subst hT';exact tF hx'
      |some u'=>simp at hT hT';subst hT;subst hT';exact rW.apart j j' u u' x hjj hu hu' hx hx') (fun b hb=>hfresh b hb)
 refine⟨v,_,_,σ2,(bo++[h0])::bΩ,he,hS3,hk3,YV,?_,rfl,rfl⟩
 refine hback _ _ _ _ _ (by rw[uh]) ⟨by rw[uh,YU],fun j x hx=> ?_⟩
 rw[JO,Nat.zero_add] at hx
 cases hd:r[j]? with
 |none=>rw[hd] at hx;cases hx
 |some d=>
  rw[hd] at hx
  simp only[Option.map_some,Option.some.injEq] at hx
  obtain⟨u,h1,h2⟩:=rW.cell j d hd
  have hjl:j<(dR r n).length:=by rw[eY];exact(List.getElem?_eq_some_iff.1 hd).1
  obtain⟨v0,h3,_,h4⟩:=hcs.2 j (.d (dR r n)[j]) (by rw[List.getElem?_map,List.getElem?_eq_getElem hjl];rfl)
  have hv0:OL.getD j undef=v0:=by rw[List.getD_eq_getElem?_getD,h3];rfl
  simp only[hv0] at h2
  refine⟨v0,h3,?_,h4⟩
  have hsc:(∀es,d≠ .sl es)→iH w' σ2 ((bT++[.xf (r.map um)])::Ω) ((bo++[h0])::bΩ) (.d d) v0:=fun hne=>by
   have:SD d v0:=by cases d<;>first|exact absurd rfl (hne _)|exact h2.2
   exact Gq this
  cases d with
  |sl es=>
   subst hx
   obtain⟨T,rfl,_,h5,_⟩:=h2
   refine⟨_,dJ _ _ _,fun rs _=>⟨h0,by rw[←hlen,dJ],?_⟩⟩
   unfold yg
   rw[hroot,h1]
   exact h5
  |_=>subst hx;exact hsc (fun es e=>by cases e)
theorem OO:∀{p:List (Nat×Nat)} {es old new:List (List D)},tL es p=some old→tL (pK es p new) p=some new
 |[],_,_,_,_=>rfl
 |(i,o)::p,es,old,new,h=>by
  rw[tL] at h
  rw[pK]
  cases hc:cellAt es i o with
  |none=>rw[hc] at h;cases h
  |some d=>
   rw[hc] at h
   cases d with
   |sl es'=>
    simp only at h ⊢
    have hi:i<es.length∧o<(es.getD i []).length:=by
     unfold cellAt at hc
     cases he:es[i]? with
     |none=>rw[he] at hc;cases hc
     |some r=>
      rw[he] at hc
      refine⟨(List.getElem?_eq_some_iff.1 he).1,?_⟩
      rw[List.getD_eq_getElem?_getD,he]
      exact(List.getElem?_eq_some_iff.1 hc).1
    have h2:cellAt (es.set i ((es.getD i []).set o (.sl (pK es' p new)))) i o=some (.sl (pK es' p new)):=by
     unfold cellAt
     rw[List.getElem?_set_self hi.1,Option.bind_some,List.getElem?_set_self hi.2]
    rw[tL,h2]
    exact OO h
   |_=>cases h
theorem wE{es es' new:List (List D)}{i o:Nat}{p:List (Nat×Nat)}(h:cellAt es i o=some (.sl es')):pK es ((i,o)::p) new=es.set i ((es.getD i []).set o (.sl (pK es' p new))):=by
 rw[pK,h]
theorem K7:∀{p:List (Nat×Nat)} {es old a b:List (List D)},tL es p=some old→pK (pK es p a) p b=pK es p b
 |[],_,_,_,_,_=>rfl
 |(i,o)::p,es,old,a,b,h=>by
  rw[tL] at h
  cases hc:cellAt es i o with
  |none=>rw[hc] at h;cases h
  |some d=>
   rw[hc] at h
   cases d with
   |sl es'=>
    simp only at h ⊢
    have hi:i<es.length∧o<(es.getD i []).length:=by
     unfold cellAt at hc
     cases he:es[i]? with
     |none=>rw[he] at hc;cases hc
     |some r=>
      rw[he] at hc
      refine⟨(List.getElem?_eq_some_iff.1 he).1,?_⟩
      rw[List.getD_eq_getElem?_getD,he]
      exact(List.getElem?_eq_some_iff.1 hc).1
    have h2:cellAt (es.set i ((es.getD i []).set o (.sl (pK es' p a)))) i o=some (.sl (pK es' p a)):=by
     unfold cellAt
     rw[List.getElem?_set_self hi.1,Option.bind_some,List.getElem?_set_self hi.2]
    rw[wE hc,wE hc,wE h2,K7 h,List.set_set]
    congr 1
    rw[List.getD_eq_getElem?_getD,List.getElem?_set_self hi.1,Option.getD_some,List.set_set]
   |_=>cases h
theorem OP:∀{p:List (Nat×Nat)} {es old es':List (List D)} {i o:Nat},tL es p=some old→cellAt old i o=some (.sl es')→tL es (p++[(i,o)])=some es'
 |[],es,old,es',i,o,h,hc=>by cases h;rw[List.nil_append,tL,hc];rfl
 |(i',o')::p,es,old,es',i,o,h,hc=>by
  rw[List.cons_append,tL]
  rw[tL] at h
  cases hd:cellAt es i' o' with
  |none=>rw[hd] at h;cases h
  |some d=>
   rw[hd] at h
   cases d with
   |sl e=>exact OP h hc
   |_=>cases h
theorem K8:∀{p:List (Nat×Nat)} {es old es' new:List (List D)} {i o:Nat},tL es p=some old→cellAt old i o=some (.sl es')→pK es (p++[(i,o)]) new=pK es p (old.set i ((old.getD i []).set o (.sl new)))
 |[],es,old,es',new,i,o,h,hc=>by cases h;rw[List.nil_append,wE hc];rfl
 |(i',o')::p,es,old,es',new,i,o,h,hc=>by
  rw[List.cons_append]
  rw[tL] at h
  cases hd:cellAt es i' o' with
  |none=>rw[hd] at h;cases h
  |some d=>
   rw[hd] at h
   cases d with
   |sl e=>simp only at h;rw[wE hd,wE hd,K8 h hc]
   |_=>cases h
theorem Dv{rs:List (List (List D))}{r:Nat}{p:List (Nat×Nat)}{old:List (List D)}(h:atR rs r p=some old):∃hr:r<rs.length,tL rs[r] p=some old:=by
 unfold atR at h
 cases hr:rs[r]? with
 |none=>rw[hr] at h;cases h
 |some es=>
  rw[hr] at h
  obtain⟨h1,h2⟩:=List.getElem?_eq_some_iff.1 hr
  exact⟨h1,by rw[h2];exact h⟩
theorem jZ{rs:List (List (List D))}{r:Nat}{p:List (Nat×Nat)}{old new:List (List D)}(h:atR rs r p=some old):atR (dB rs r p new) r p=some new:=by
 obtain⟨hr,h⟩:=Dv h
 unfold atR dB
 rw[List.getElem?_set_self hr,Option.bind_some,List.getD_eq_getElem?_getD,List.getElem?_eq_getElem hr,Option.getD_some]
 exact OO h
theorem jO{rs:List (List (List D))}{r:Nat}{p:List (Nat×Nat)}{old a b:List (List D)}(h:atR rs r p=some old):dB (dB rs r p a) r p b=dB rs r p b:=by
 obtain⟨hr,h⟩:=Dv h
 unfold dB
 rw[List.set_set,List.getD_eq_getElem?_getD,List.getElem?_set_self hr,List.getD_eq_getElem?_getD,List.getElem?_eq_getElem hr,Option.getD_some,Option.getD_some,K7 h]
theorem K9:∀{p:List (Nat×Nat)} {es old:List (List D)},tL es p=some old→pK es p old=es
 |[],_,_,h=>by cases h;rfl
 |(i,o)::p,es,old,h=>by
  rw[tL] at h
  cases hc:cellAt es i o with
  |none=>rw[hc] at h;cases h
  |some d=>
   rw[hc] at h
   cases d with
   |sl es'=>
    simp only at h
    rw[wE hc,K9 h]
    unfold cellAt at hc
    cases he:es[i]? with
    |none=>rw[he] at hc;cases hc
    |some r=>
     rw[he] at hc
     obtain⟨h1,h2⟩:=List.getElem?_eq_some_iff.1 he
     obtain⟨h3,h4⟩:=List.getElem?_eq_some_iff.1 hc
     rw[List.getD_eq_getElem?_getD,he,Option.getD_some,←h4,List.set_getElem_self,←h2,List.set_getElem_self]
   |_=>cases h
theorem kr{rs:List (List (List D))}{r:Nat}{p:List (Nat×Nat)}{old:List (List D)}(h:atR rs r p=some old):dB rs r p old=rs:=by
 obtain⟨hr,h⟩:=Dv h
 unfold dB
 rw[List.getD_eq_getElem?_getD,List.getElem?_eq_getElem hr,Option.getD_some,K9 h,List.set_getElem_self]
theorem OQ{rs:List (List (List D))}{r i o:Nat}{p:List (Nat×Nat)}{old es':List (List D)}(h:atR rs r p=some old)(hc:cellAt old i o=some (.sl es')):atR rs r (p++[(i,o)])=some es':=by
 obtain⟨hr,h⟩:=Dv h
 unfold atR
 rw[List.getElem?_eq_getElem hr,Option.bind_some]
 exact OP h hc
theorem Wp{rs:List (List (List D))}{r i o:Nat}{p:List (Nat×Nat)}{old es' new:List (List D)}(h:atR rs r p=some old)(hc:cellAt old i o=some (.sl es')):
 dB rs r (p++[(i,o)]) new=dB rs r p (old.set i ((old.getD i []).set o (.sl new))):=by
 obtain⟨hr,h⟩:=Dv h
 unfold dB
 rw[List.getD_eq_getElem?_getD,List.getElem?_eq_getElem hr,Option.getD_some,K8 h hc]
theorem zk{rs:List (List (List D))}{r r':Nat}{p p':List (Nat×Nat)}{new:List (List D)}(h:r≠r'):atR (dB rs r p new) r' p'=atR rs r' p':=by
 unfold atR dB
 rw[List.getElem?_set_ne h]
end
end Go.Ab
namespace Go.Ab
def BN(n:Nat)(out:List UInt8):List UInt8:=if h:n=0 then out else BN (n/10) (UInt8.ofNat (48+n % 10)::out)
termination_by n
decreasing_by omega
def Ep(k:Int):List UInt8:=if k≤0 then [109,48] else 109::BN k.toNat []
theorem Wq{out:List UInt8}:BN 0 out=out:=by rw[BN];simp
theorem YW{n:Nat}{out:List UInt8}(h:n≠0):BN n out=BN (n/10) (UInt8.ofNat (48+n % 10)::out):=by rw[BN];simp[h]
mutual
def kZ:D→Nat
 | .sl es=>aP es
 | .b _=>1
 | .i _ _=>1
 | .s _=>1
 | .o _=>0
 | .ol _ _=>0
def lg:List D→Nat
 |[]=>0
 |d::ds=>kZ d+lg ds
def aP:List (List D)→Nat
 |[]=>0
 |r::rs=>lg r+aP rs
end
mutual
def xW:D→Int→D
 | .sl es,k=>.sl (gQ es k)
 | .b _,k=>.b (decide (k.tmod 3=0))
 | .i kd _,k=>.i kd k
 | .s _,k=>.s (Ep k)
 | .o v,_=>.o v
 | .ol n es,_=>.ol n es
def tN:List D→Int→List D
 |[],_=>[]
 |d::ds,k=>xW d k::tN ds (k+kZ d)
def gQ:List (List D)→Int→List (List D)
 |[],_=>[]
 |r::rs,k=>tN r k::gQ rs (k+lg r)
end
mutual
def uS:D→Bool
 | .sl es=>kL es
 | .b _=>true
 | .i _ _=>true
 | .s _=>true
 | .o _=>true
 | .ol _ _=>true
def jW:List D→Bool
 |[]=>true
 |d::ds=>uS d&&jW ds
def kL:List (List D)→Bool
 |[]=>true
 |r::rs=>decide (r.length≤32)&&jW r&&kL rs
end
mutual
theorem aeG:∀d:D,uS d=true→kZ d≤32*d.sz+1
 | .sl es,h=>by
   have:=Ws es (by simpa [uS] using h)
   simp only[kZ,D.sz];omega
 | .b _,_=>by simp[kZ]
 | .i _ _,_=>by simp[kZ]
 | .s _,_=>by simp[kZ]
 | .o _,_=>by simp[kZ]
 | .ol _ _,_=>by simp[kZ]
theorem Iw:∀r:List D,jW r=true→lg r≤32*bP r+r.length
 |[],_=>by simp[lg]
 |d::ds,h=>by
  rw[jW,Bool.and_eq_true] at h
  have h1:=aeG d h.1
  have h2:=Iw ds h.2
  simp only[lg,bP,List.length_cons];omega
theorem Ws:∀rs:List (List D),kL rs=true→aP rs≤32*(rs.length+aI rs)
 |[],_=>by simp[aP]
 |r::rs,h=>by
  rw[kL,Bool.and_eq_true,Bool.and_eq_true,decide_eq_true_eq] at h
  have h1:=Iw r h.1.2
  have h2:=Ws rs h.2
  simp only[aP,aI,List.length_cons];omega
end
theorem iq:∀a b,jW (a++b)=(jW a&&jW b)
 |[],b=>by simp[jW]
 |d::ds,b=>by rw[List.cons_append,jW,jW,iq ds b,Bool.and_assoc]
theorem kR{α:Type}{f:α→List D}:∀{xs:List α},(∀x∈xs,jW (f x)=true∧(f x).length≤32)→kL (xs.map f)=true
 |[],_=>rfl
 |x::xs,h=>by
  rw[List.map_cons,kL,(h x (by simp)).1,kR fun y hy=>h y (by simp[hy]),decide_eq_true (h x (by simp)).2];rfl
theorem zY:∀a b,aP (a++b)=aP a+aP b
 |[],b=>by simp[aP]
 |d::ds,b=>by rw[List.cons_append,aP,aP,zY ds b];omega
theorem E8:∀a b k,gQ (a++b) k=gQ a k++gQ b (k+aP a)
 |[],b,k=>by simp[gQ,aP]
 |d::ds,b,k=>by rw[List.cons_append,gQ,gQ,E8 ds b,aP];simp only[List.cons_append,Int.natCast_add,Int.add_assoc]
theorem lK:∀rs k,(gQ rs k).length=rs.length
 |[],_=>rfl
 |r::rs,k=>by rw[gQ,List.length_cons,lK rs,List.length_cons]
theorem OT{rows:List (List D)}{i:Nat}(hi:i<rows.length):rows.take (i+1)=rows.take i++[rows[i]]:=List.take_succ_eq_append_getElem hi
theorem jP{rows:List (List D)}{i:Nat}(hi:i<rows.length):aP (rows.take (i+1))=aP (rows.take i)+lg rows[i]:=by
 rw[OT hi,zY];simp[aP]
theorem mX{rows:List (List D)}{i:Nat}:aP (rows.take i)≤aP rows:=by
 have:=zY (rows.take i) (rows.drop i)
 rw[List.take_append_drop] at this
 omega
def lX(rows:List (List D))(k:Int)(i:Nat):List (List D):=gQ (rows.take i) k++rows.drop i
theorem ku{rows:List (List D)}{k:Int}:lX rows k 0=rows:=by simp[lX,gQ]
theorem lY{rows:List (List D)}{k:Int}{i:Nat}(h:rows.length≤i):lX rows k i=gQ rows k:=by
 unfold lX;rw[List.take_of_length_le h,List.drop_of_length_le h,List.append_nil]
theorem gI{rows:List (List D)}{k:Int}{i:Nat}:(lX rows k i).length=rows.length:=by
 unfold lX;rw[List.length_append,lK,List.length_take,List.length_drop];omega
theorem YX{rows:List (List D)}{k:Int}{i:Nat}(hi:i<rows.length):(lX rows k i).getD i []=rows[i]:=by
 unfold lX
 rw[List.getD_eq_getElem?_getD,List.getElem?_append_right (by rw[lK,List.length_take];omega),lK,List.length_take,List.getElem?_drop]
 rw[show i+(i-min i rows.length)=i by omega,List.getElem?_eq_getElem hi];rfl
theorem YZ{rows:List (List D)}{k:Int}{i:Nat}(hi:i<rows.length):(lX rows k i).set i (tN rows[i] (k+aP (rows.take i)))=lX rows k (i+1):=by
 unfold lX
 have hl:(gQ (rows.take i) k).length=i:=by rw[lK,List.length_take];omega
 rw[List.set_append_right _ _ (by omega),hl,Nat.sub_self,List.drop_eq_getElem_cons hi,List.set_cons_zero,OT hi,E8,List.append_assoc]
 rfl
def iG(rows:List (List D))(k:Int)(i:Nat)(row:List D):List (List D):=(lX rows k i).set i row
theorem bH{rows:List (List D)}{k:Int}{i:Nat}{row:List D}:(iG rows k i row).length=rows.length:=by unfold iG;rw[List.length_set,gI]
theorem kS{rows:List (List D)}{k:Int}{i:Nat}{row:List D}(hi:i<rows.length):(iG rows k i row).getD i []=row:=by
 unfold iG
 rw[List.getD_eq_getElem?_getD,List.getElem?_set_self (by rw[gI];exact hi)];rfl
theorem jC{rows:List (List D)}{k:Int}{i o:Nat}{row:List D}(hi:i<rows.length):cellAt (iG rows k i row) i o=row[o]? :=by
 unfold iG cellAt
 rw[List.getElem?_set_self (by rw[gI];exact hi),Option.bind_some]
theorem bS{rows:List (List D)}{k:Int}{i:Nat}{row row':List D}:(iG rows k i row).set i row'=iG rows k i row':=by unfold iG;rw[List.set_set]
theorem nR{rows:List (List D)}{k:Int}{i:Nat}(hi:i<rows.length):lX rows k i=iG rows k i rows[i]:=by
 have h:=YX (k:=k) hi
 have hl:i<(lX rows k i).length:=by rw[gI];exact hi
 rw[List.getD_eq_getElem?_getD,List.getElem?_eq_getElem hl,Option.getD_some] at h
 unfold iG
 rw[←h,List.set_getElem_self]
theorem nS{rows:List (List D)}{k:Int}{i:Nat}(hi:i<rows.length):iG rows k i (tN rows[i] (k+aP (rows.take i)))=lX rows k (i+1):=YZ hi
theorem aaS{rs:List (List (List D))}{r:Nat}{p:List (Nat×Nat)}{rows es:List (List D)}{k:Int}{i o:Nat}{row:List D}(hp:atR rs r p=some rows)(hi:i<rows.length)(h:row[o]? =some (.sl es)):
 atR (dB rs r p (iG rows k i row)) r (p++[(i,o)])=some es:=OQ (jZ hp) (by rw[jC hi,h])
theorem Y0{rs:List (List (List D))}{r:Nat}{p:List (Nat×Nat)}{rows es new:List (List D)}{k:Int}{i o:Nat}{row:List D}(hp:atR rs r p=some rows)(hi:i<rows.length)(h:row[o]? =some (.sl es)):
 dB (dB rs r p (iG rows k i row)) r (p++[(i,o)]) new=dB rs r p (iG rows k i (row.set o (.sl new))):=by
 rw[Wp (jZ hp) (by rw[jC hi,h]),jO hp,kS hi,bS]
theorem FV:∀{rows:List (List D)} {k:Int} {i:Nat} (hi:i<rows.length),(gQ rows k).getD i []=tN rows[i] (k+aP (rows.take i))
 |r::rows,k,0,_=>by simp[gQ,aP]
 |r::rows,k,i+1,hi=>by
  have:=FV (rows:=rows) (k:=k+lg r) (i:=i) (by simpa using hi)
  rw[gQ,List.getD_cons_succ,this,List.getElem_cons_succ,List.take_succ_cons,aP,Int.natCast_add,Int.add_assoc]
theorem oh{α:Type}{f:α→List D}(h:∀x,1≤lg (f x)):∀xs:List α,xs.length≤aP (xs.map f)
 |[]=>Nat.zero_le _
 |x::xs=>by
  have h1:=h x
  have h2:=oh h xs
  rw[List.map_cons,aP,List.length_cons]
  omega
theorem fT{P:Program}{f:FuncId}{S:Store}{l j r i o:Nat}{p:List (Nat×Nat)}{rs:List (List (List D))}{rows es new:List (List D)}{row:List D}{k:Int}{args:List V}{R:V}
 (hS:bM S (l,j)=some (.xf rs)) (hp:atR rs r p=some rows) (hi:i<rows.length) (h:row[o]? =some (.sl es))
 (hA:∀(S':Store) (rs':List (List (List D))),bM S' (1+l,j)=some (.xf rs')→atR rs' r (p++[(i,o)])=some es→dh P f args S' (fun res Cc=>res=R∧Cc=bQ S' (1+l,j) (.xf (dB rs' r (p++[(i,o)]) new)))):
 dh P f args ([]::bQ S (l,j) (.xf (dB rs r p (iG rows k i row)))) (fun res Cc=>res=R∧Cc=[]::bQ S (l,j) (.xf (dB rs r p (iG rows k i (row.set o (.sl new)))))):=by
 refine(hA _ _ (by rw[oM];exact dN _ _ _ _ hS) (aaS (k:=k) hp hi h)).mono fun res Cc ⟨h1,h2⟩=>⟨h1,?_⟩
 rw[h2,sF,bC,Y0 hp hi h]
theorem lZ:∀{rows:List (List D)} {n i:Nat} (hi:i<rows.length),(fu rows n)[i]? =some (dR rows[i] (n+dG (rows.take i)))
 |r::rows,n,0,_=>by simp[fu,dG]
 |r::rows,n,i+1,hi=>by
  have:=lZ (rows:=rows) (n:=n+jq r) (i:=i) (by simpa using hi)
  rw[fu,List.getElem?_cons_succ,this,List.getElem_cons_succ,List.take_succ_cons,dG,Nat.add_assoc]
theorem mY:∀row:List D,(row.map C.d).mapM Gm=some row
 |[]=>rfl
 |d::row=>by
  have:=mY row
  rw[List.map_cons,List.mapM_cons,this];rfl
theorem AJ{a:Int}(h:0≤a):decide (a<0)=false:=decide_eq_false (by omega)
end Go.Ab
namespace Go.Proofs.YtlmhknhlmicmeaaGreatDoor
open Go Go.Ab
theorem dS(k:Int)(hk: -9223372036854775808≤k∧k≤4611686018427387904):aG Tryz.prog 181 [.c (.d (.i .i64 k))] (.c (.d (.s (Ep k)))):=fun S=>by
 refine aA (rs:=[.tmp 2]) Tryz.checked.mixed Tryz.func181 Tryz.ntmps181 rfl rfl rfl rfl rfl ?_
 first|refine W1 ?_|exact Z1
 first|refine S0 (fun hb h=>?_) (fun hb h=>?_)|refine S1 fun hb h=>?_|refine S2 fun hb h=>?_|exact S3
 ·unfold Ep;rw[if_pos h]
 have hpos:¬k≤0:=h
 refine aV (ι:=Int×List UInt8) Tryz.checked.mixed rfl [0,3] (fun y=>[.c (.d (.i .i64 y.1)),.c (.d (.s y.2))]) (fun _=>[]::S)
  (fun y=>0≤y.1∧BN y.1.toNat y.2=BN k.toNat []∧y.1≤k∧y.1.toNat*2^y.2.length≤4611686018427387904∧y.2.length≤63) (fun y=>y.1.toNat) (k,[]) rfl rfl ⟨by simp only;omega,rfl,by simp only;omega,by simp only[List.length_nil];omega,by simp⟩ ?_
 rintro⟨n,out⟩ ⟨p1,p2,p3,p4,p5⟩
 simp only at p1 p2 p3 p4 p5
 first|refine W1 ?_|exact Z1
 first|refine S0 (fun hb h=>?_) (fun hb h=>?_)|refine S1 fun hb h=>?_|refine S2 fun hb h=>?_|exact S3
 ·have hn:n.toNat≠0:=by omega
  have hm:=Int.tmod_nonneg 10 p1
  have hm2:=Int.tmod_lt_of_pos n (show(0:Int)<10 by omega)
  have ZM:n.tmod 10=(n.toNat % 10:Nat):=by
   rw[Int.tmod_eq_emod_of_nonneg p1]
   omega
  have hq:n.tdiv 10=(n.toNat/10:Nat):=by
   rw[Int.tdiv_eq_ediv_of_nonneg p1]
   omega
  have hlen:out.length≤62:=by
   refine Nat.le_of_not_lt fun hgt=> ?_
   have h1:2^63≤2^out.length:=Nat.pow_le_pow_right (by omega) (by omega)
   have h2:1*2^out.length≤n.toNat*2^out.length:=Nat.mul_le_mul_right _ (by omega)
   omega
  first|refine W1 ?_|exact Z1
  have hc:UInt8.ofNat (IntKind.u8.wrap (48+n.tmod 10)).toNat=UInt8.ofNat (48+n.toNat % 10):=by
   rw[wrap_u8 _ (by omega),ZM]
   congr 1
  refine bL (ι:=Int×List UInt8) (n.tdiv 10,UInt8.ofNat (48+n.toNat % 10)::out) (by simp only;omega) (by rw[←hc];rfl) rfl ?_
  have hq2:(n.tdiv 10).toNat=n.toNat/10:=by omega
  refine⟨by simp only;omega,?_,by simp only;omega,?_,by simp only[List.length_cons];omega⟩
  ·simp only
   rw[hq2,←YW hn,p2]
  ·simp only[List.length_cons]
   rw[hq2,Nat.pow_succ]
   have:n.toNat/10*2≤n.toNat:=by omega
   calc n.toNat/10*(2^out.length*2)=n.toNat/10*2*2^out.length:=by rw[Nat.mul_comm (2^out.length) 2,Nat.mul_assoc]
    _≤n.toNat*2^out.length:=Nat.mul_le_mul_right _ this
    _≤_:=p4
 ·have:n.toNat=0:=by omega
  rw[this,Wq] at p2
  unfold Ep
  rw[if_neg hpos,p2]
end Go.Proofs.YtlmhknhlmicmeaaGreatDoor
namespace Go.Ab
theorem uT(xs:List (List UInt8)):jT (xs.map encS)=true:=kQ fun _ _=>rfl
theorem uU(xs:List (List UInt8)):kL (xs.map encS)=true:=kR fun _ _=>⟨rfl,by simp[encS]⟩
mutual
theorem aj.fQ:∀x:aj,jJ x.enc=true∧jW x.enc=true
 | .mk a0 a1 a2=>by simp only[aj.enc,jJ,qB,jW,uS,ig,iq,Bool.and_true,Bool.true_and,Bool.and_self,and_self,and_true,true_and,(aj.oP a2).1,(aj.oP a2).2]
theorem aj.oP:∀xs:List aj,jT (aj.encs xs)=true∧kL (aj.encs xs)=true
 |[]=>⟨rfl,rfl⟩
 |x::xs=>by
  have h:decide ((aj.enc x).length≤32)=true:=by rw[aj.cK];rfl
  simp only[aj.encs,jT,kL,h,(aj.fQ x).1,(aj.fQ x).2,(aj.oP xs).1,(aj.oP xs).2,Bool.and_self,and_self]
end
theorem aj.iP(xs:List aj):jT (xs.map aj.enc)=true∧kL (xs.map aj.enc)=true:=by rw[←aj.jN];exact aj.oP xs
theorem eF.fQ(x:eF):jJ x.enc=true∧jW x.enc=true:=by
 rw[eF.aC];simp only[List.cons_append,List.nil_append,jJ,qB,jW,uS,ig,iq,Bool.and_true,Bool.true_and,Bool.and_self,and_self,and_true,true_and,(aj.fQ x.fType).1,(aj.fQ x.fType).2]
theorem eF.iP(xs:List eF):jT (xs.map eF.enc)=true∧kL (xs.map eF.enc)=true:=⟨kQ fun x _=>x.fQ.1,kR fun x _=>⟨x.fQ.2,by rw[eF.cK];decide⟩⟩
theorem bq.fQ(x:bq):jJ x.enc=true∧jW x.enc=true:=by
 rw[bq.aC];simp only[List.cons_append,List.nil_append,jJ,qB,jW,uS,ig,iq,Bool.and_true,Bool.true_and,Bool.and_self,and_self,and_true,true_and,(aj.fQ x.fType).1,(aj.fQ x.fType).2]
theorem bq.iP(xs:List bq):jT (xs.map bq.enc)=true∧kL (xs.map bq.enc)=true:=⟨kQ fun x _=>x.fQ.1,kR fun x _=>⟨x.fQ.2,by rw[bq.cK];decide⟩⟩
mutual
theorem au.fQ:∀x:au,jJ x.enc=true∧jW x.enc=true
 | .mk a0 a1 a2 a3 a4 a5 a6=>by simp only[au.enc,jJ,qB,jW,uS,ig,iq,Bool.and_true,Bool.true_and,Bool.and_self,and_self,and_true,true_and,(aj.fQ a4).1,(aj.fQ a4).2,(au.oP a5).1,(au.oP a5).2,(aW.oP a6).1,(aW.oP a6).2]
theorem au.oP:∀xs:List au,jT (au.encs xs)=true∧kL (au.encs xs)=true
 |[]=>⟨rfl,rfl⟩
 |x::xs=>by
  have h:decide ((au.enc x).length≤32)=true:=by rw[au.cK];rfl
  simp only[au.encs,jT,kL,h,(au.fQ x).1,(au.fQ x).2,(au.oP xs).1,(au.oP xs).2,Bool.and_self,and_self]
theorem aW.fQ:∀x:aW,jJ x.enc=true∧jW x.enc=true
 | .mk a0 a1 a2=>by simp only[aW.enc,jJ,qB,jW,uS,ig,iq,Bool.and_true,Bool.true_and,Bool.and_self,and_self,and_true,true_and,uT a1,uU a1,(au.fQ a2).1,(au.fQ a2).2]
theorem aW.oP:∀xs:List aW,jT (aW.encs xs)=true∧kL (aW.encs xs)=true
 |[]=>⟨rfl,rfl⟩
 |x::xs=>by
  have h:decide ((aW.enc x).length≤32)=true:=by rw[aW.cK];rfl
  simp only[aW.encs,jT,kL,h,(aW.fQ x).1,(aW.fQ x).2,(aW.oP xs).1,(aW.oP xs).2,Bool.and_self,and_self]
end
theorem au.iP(xs:List au):jT (xs.map au.enc)=true∧kL (xs.map au.enc)=true:=by rw[←au.jN];exact au.oP xs
theorem aW.iP(xs:List aW):jT (xs.map aW.enc)=true∧kL (xs.map aW.enc)=true:=by rw[←aW.jN];exact aW.oP xs
mutual
theorem ak.fQ:∀x:ak,jJ x.enc=true∧jW x.enc=true
 | .mk a0 a1=>by simp only[ak.enc,jJ,qB,jW,uS,ig,iq,Bool.and_true,Bool.true_and,Bool.and_self,and_self,and_true,true_and,(ak.oP a1).1,(ak.oP a1).2]
theorem ak.oP:∀xs:List ak,jT (ak.encs xs)=true∧kL (ak.encs xs)=true
 |[]=>⟨rfl,rfl⟩
 |x::xs=>by
  have h:decide ((ak.enc x).length≤32)=true:=by rw[ak.cK];rfl
  simp only[ak.encs,jT,kL,h,(ak.fQ x).1,(ak.fQ x).2,(ak.oP xs).1,(ak.oP xs).2,Bool.and_self,and_self]
end
theorem ak.iP(xs:List ak):jT (xs.map ak.enc)=true∧kL (xs.map ak.enc)=true:=by rw[←ak.jN];exact ak.oP xs
theorem aR.fQ(x:aR):jJ x.enc=true∧jW x.enc=true:=by
 rw[aR.aC];simp only[List.cons_append,List.nil_append,jJ,qB,jW,uS,ig,iq,Bool.and_true,Bool.true_and,Bool.and_self,and_self,and_true,true_and,(aj.iP x.aY).1,(aj.iP x.aY).2,(aj.fQ x.bO).1,(aj.fQ x.bO).2,uT x.aF,uU x.aF,(au.fQ x.fBody).1,(au.fQ x.fBody).2]
theorem aR.iP(xs:List aR):jT (xs.map aR.enc)=true∧kL (xs.map aR.enc)=true:=⟨kQ fun x _=>x.fQ.1,kR fun x _=>⟨x.fQ.2,by rw[aR.cK];decide⟩⟩
theorem bn.fQ(x:bn):jJ x.enc=true∧jW x.enc=true:=by
 rw[bn.aC];simp only[List.cons_append,List.nil_append,jJ,qB,jW,uS,ig,iq,Bool.and_true,Bool.true_and,Bool.and_self,and_self,and_true,true_and,uT x.bN,uU x.bN,(aR.iP x.aD).1,(aR.iP x.aD).2]
theorem bn.iP(xs:List bn):jT (xs.map bn.enc)=true∧kL (xs.map bn.enc)=true:=⟨kQ fun x _=>x.fQ.1,kR fun x _=>⟨x.fQ.2,by rw[bn.cK];decide⟩⟩
theorem aK.fQ(x:aK):jJ x.enc=true∧jW x.enc=true:=by
 rw[aK.aC];simp only[List.cons_append,List.nil_append,jJ,qB,jW,uS,ig,iq,Bool.and_true,Bool.true_and,Bool.and_self,and_self,and_true,true_and,(aj.iP x.fA).1,(aj.iP x.fA).2]
theorem aK.iP(xs:List aK):jT (xs.map aK.enc)=true∧kL (xs.map aK.enc)=true:=⟨kQ fun x _=>x.fQ.1,kR fun x _=>⟨x.fQ.2,by rw[aK.cK];decide⟩⟩
theorem aL.fQ(x:aL):jJ x.enc=true∧jW x.enc=true:=by
 rw[aL.aC];simp only[List.cons_append,List.nil_append,jJ,qB,jW,uS,ig,iq,Bool.and_true,Bool.true_and,Bool.and_self,and_self,and_true,true_and,uT x.aF,uU x.aF,(aK.iP x.aJ).1,(aK.iP x.aJ).2]
theorem aL.iP(xs:List aL):jT (xs.map aL.enc)=true∧kL (xs.map aL.enc)=true:=⟨kQ fun x _=>x.fQ.1,kR fun x _=>⟨x.fQ.2,by rw[aL.cK];decide⟩⟩
theorem bB.fQ(x:bB):jJ x.enc=true∧jW x.enc=true:=by
 rw[bB.aC];simp only[List.cons_append,List.nil_append,jJ,qB,jW,uS,ig,iq,Bool.and_true,Bool.true_and,Bool.and_self,and_self,and_true,true_and,uT x.aF,uU x.aF,(au.fQ x.fBody).1,(au.fQ x.fBody).2]
theorem bB.iP(xs:List bB):jT (xs.map bB.enc)=true∧kL (xs.map bB.enc)=true:=⟨kQ fun x _=>x.fQ.1,kR fun x _=>⟨x.fQ.2,by rw[bB.cK];decide⟩⟩
theorem aN.fQ(x:aN):jJ x.enc=true∧jW x.enc=true:=by
 rw[aN.aC];simp only[List.cons_append,List.nil_append,jJ,qB,jW,uS,ig,iq,Bool.and_true,Bool.true_and,Bool.and_self,and_self,and_true,true_and,uT x.aF,uU x.aF,(aj.fQ x.bZ).1,(aj.fQ x.bZ).2,(bq.iP x.bX).1,(bq.iP x.bX).2,(aj.fQ x.bY).1,(aj.fQ x.bY).2,(bB.iP x.aT).1,(bB.iP x.aT).2]
theorem aN.iP(xs:List aN):jT (xs.map aN.enc)=true∧kL (xs.map aN.enc)=true:=⟨kQ fun x _=>x.fQ.1,kR fun x _=>⟨x.fQ.2,by rw[aN.cK];decide⟩⟩
theorem bG.fQ(x:bG):jJ x.enc=true∧jW x.enc=true:=by
 rw[bG.aC];simp only[List.cons_append,List.nil_append,jJ,qB,jW,uS,ig,iq,Bool.and_true,Bool.true_and,Bool.and_self,and_self,and_true,true_and,(aj.fQ x.fType).1,(aj.fQ x.fType).2]
theorem bG.iP(xs:List bG):jT (xs.map bG.enc)=true∧kL (xs.map bG.enc)=true:=⟨kQ fun x _=>x.fQ.1,kR fun x _=>⟨x.fQ.2,by rw[bG.cK];decide⟩⟩
theorem aQ.fQ(x:aQ):jJ x.enc=true∧jW x.enc=true:=by
 rw[aQ.aC];simp only[List.cons_append,List.nil_append,jJ,qB,jW,uS,ig,iq,Bool.and_true,Bool.true_and,Bool.and_self,and_self,and_true,true_and,uT x.aF,uU x.aF,(bq.iP x.bX).1,(bq.iP x.bX).2,(bG.iP x.aY).1,(bG.iP x.aY).2,(aj.fQ x.bO).1,(aj.fQ x.bO).2,(au.fQ x.fBody).1,(au.fQ x.fBody).2]
theorem aQ.iP(xs:List aQ):jT (xs.map aQ.enc)=true∧kL (xs.map aQ.enc)=true:=⟨kQ fun x _=>x.fQ.1,kR fun x _=>⟨x.fQ.2,by rw[aQ.cK];decide⟩⟩
theorem bg.fQ(x:bg):jJ x.enc=true∧jW x.enc=true:=by
 rw[bg.aC];simp only[List.cons_append,List.nil_append,jJ,qB,jW,uS,ig,iq,Bool.and_true,Bool.true_and,Bool.and_self,and_self,and_true,true_and,uT x.dP,uU x.dP,(bn.iP x.aO).1,(bn.iP x.aO).2,(aL.iP x.ay).1,(aL.iP x.ay).2,(aN.iP x.aM).1,(aN.iP x.aM).2,(aQ.iP x.aU).1,(aQ.iP x.aU).2]
theorem bg.iP(xs:List bg):jT (xs.map bg.enc)=true∧kL (xs.map bg.enc)=true:=⟨kQ fun x _=>x.fQ.1,kR fun x _=>⟨x.fQ.2,by rw[bg.cK];decide⟩⟩
theorem fE.fQ(x:fE):jJ x.enc=true∧jW x.enc=true:=by
 rw[fE.aC];simp only[List.cons_append,List.nil_append,jJ,qB,jW,uS,ig,iq,Bool.and_true,Bool.true_and,Bool.and_self,and_self,and_true,true_and,(bg.iP x.pE).1,(bg.iP x.pE).2]
theorem fE.iP(xs:List fE):jT (xs.map fE.enc)=true∧kL (xs.map fE.enc)=true:=⟨kQ fun x _=>x.fQ.1,kR fun x _=>⟨x.fQ.2,by rw[fE.cK];decide⟩⟩
theorem dY.fQ(x:dY):jJ x.enc=true∧jW x.enc=true:=by
 rw[dY.aC];simp only[List.cons_append,List.nil_append,jJ,qB,jW,uS,ig,iq,Bool.and_true,Bool.true_and,Bool.and_self,and_self,and_true,true_and]
theorem dY.iP(xs:List dY):jT (xs.map dY.enc)=true∧kL (xs.map dY.enc)=true:=⟨kQ fun x _=>x.fQ.1,kR fun x _=>⟨x.fQ.2,by rw[dY.cK];decide⟩⟩
end Go.Ab
namespace Go.Proofs.YtlmhknhlmicmeaaGreatDoor
open Go Go.Ab
theorem E9:∀n:Nat,(∀x:ak,SizeOf.sizeOf x<n→∀y:ak,x.sz≤1048576→aG Tryz.prog 14 [x.v,y.v] (.c (.d (.b (dec (x=y))))))∧
 (∀xs:List ak,SizeOf.sizeOf xs<n→∀ys:List ak,xs.length+aI (xs.map ak.enc)≤1048576→aG Tryz.prog 76 [.c (.d (.sl (xs.map ak.enc))),.c (.d (.sl (ys.map ak.enc)))] (.c (.d (.b (dec (xs=ys))))))
 |0=>⟨fun x h=>by omega,fun x h=>by omega⟩
 |n+1=>by
  obtain⟨oI,Y1⟩:=E9 n
  refine⟨fun x hn y hsz S=> ?_,fun xs hn ys hsz S=> ?_⟩
  ·have ag5:=ak.Av x
   simp only[ak.sz,ak.aC,bP,bA,D.sz,List.length_map] at hsz
   refine aA (rs:=[.tmp 4]) Tryz.checked.mixed Tryz.func14 Tryz.ntmps14 rfl rfl rfl rfl rfl ?_
   first|refine W1 ?_|exact Z1
   first|refine S0 (fun hb h=>?_) (fun hb h=>?_)|refine S1 fun hb h=>?_|refine S2 fun hb h=>?_|exact S3
   ·exact aB (aH (fun e=>h (by rw[e]))).symm
   have aeH:=h
   clear h
   refine ah (Y1 x.bF (by omega) _ (by omega)) ?_
   first|refine W1 ?_|exact Z1
   first|refine S0 (fun hb h=>?_) (fun hb h=>?_)|refine S1 fun hb h=>?_|refine S2 fun hb h=>?_|exact S3
   ·exact aB (aH (fun e=>h (by rw[e]))).symm
   have eList:=h
   clear h
   exact aB (bJ (ak.ext aeH eList)).symm
  ·refine aA (rs:=[.tmp 4]) Tryz.checked.mixed Tryz.func76 Tryz.ntmps76 rfl rfl rfl rfl rfl ?_
   first|refine W1 ?_|exact Z1
   first|refine S0 (fun hb h=>?_) (fun hb h=>?_)|refine S1 fun hb h=>?_|refine S2 fun hb h=>?_|exact S3
   ·exact aB (aH (fun e=>h (by rw[e]))).symm
   have hl:xs.length=ys.length:=by omega
   refine aV (ι:=Nat) Tryz.checked.mixed rfl [0,1,5] (fun y=>[.c (.d (.sl (xs.map ak.enc))),.c (.d (.sl (ys.map ak.enc))),.c (.d (.i .i64 y))]) (fun y=>[]::S)
    (fun i=>i≤xs.length∧∀j,j<i→xs[j]? =ys[j]?) (fun y=>xs.length-y) 0 rfl rfl ⟨Nat.zero_le _,fun j h=>by omega⟩ ?_
   rintro i ⟨p1,p2⟩
   first|refine W1 ?_|exact Z1
   with_reducible refine aS (fun hb=> ?_) (fun hb=> ?_)<;>have h:=hb<;>(try simp only[wf_preprocess] at h)<;>simp -implicitDefEqProofs (disch:=omega) only[go_sem,hb]<;>(repeat(with_reducible refine And.intro ?_ ?_;focus first|omega|rfl|assumption|exact⟨_,rfl,rfl⟩|(simp;omega)|(simp;done)))
   ·have hi:i<xs.length:=by omega
    have hi':i<ys.length:=by omega
    have hx:xs[i].sz≤aI (xs.map ak.enc):=bI (List.mem_map_of_mem (List.getElem_mem hi))
    refine W3 ?_
    refine ah (oI xs[i] (by have:=List.sizeOf_lt_of_mem (List.getElem_mem hi);omega) ys[i] (by omega)) ?_
    first|refine W1 ?_|exact Z1
    first|refine S0 (fun hb h=>?_) (fun hb h=>?_)|refine S1 fun hb h=>?_|refine S2 fun hb h=>?_|exact S3
    ·exact aB (aH (fun e=>h (by simp only[e]))).symm
    refine bL (i+1) (by omega) rfl rfl ⟨by omega,fun j hj=> ?_⟩
    by_cases e:j=i
    ·subst e
     rw[List.getElem?_eq_getElem hi,List.getElem?_eq_getElem hi',h]
    ·exact p2 j (by omega)
   ·have hi:i=xs.length:=by omega
    refine aB (bJ (List.ext_getElem? fun j=> ?_)).symm
    by_cases hj:j<i
    ·exact p2 j hj
    ·rw[List.getElem?_eq_none (by omega),List.getElem?_eq_none (by omega)]
theorem BO(x:ak):∀y:ak,x.sz≤1048576→aG Tryz.prog 14 [x.v,y.v] (.c (.d (.b (dec (x=y))))):=(E9 _).1 x (Nat.lt_succ_self _)
end Go.Proofs.YtlmhknhlmicmeaaGreatDoor
namespace Go.Proofs.YtlmhknhlmicmeaaGreatDoor
open Go Go.Ab
theorem JQ(x:aR):∀left:Int,0≤left→left≤1048576→lU x.enc→aG Tryz.prog 302 [x.v,.c (.d (.i .i64 left))] (.c (.d (.i .i64 (dD left x.sz)))):=by
 intro left h0 h1 hf S
 simp only[aR.aC,List.cons_append,List.nil_append,jh,je,iV,and_true] at hf
 obtain⟨fName,aY,bO,iD,aF,fBody⟩:=hf
 have hz:x.sz=x.fName.length+((x.aY.length+aI (x.aY.map aj.enc))+(x.bO.sz+((x.aF.length+aI (x.aF.map encS))+(x.fBody.sz)))):=by
  simp only[aR.sz,aR.aC,bP,bA,D.sz,List.length_map,Nat.add_zero,Nat.zero_add,au.dw,aj.dw]<;>omega
 refine aA (rs:=[.tmp 4]) Tryz.checked.mixed Tryz.func302 Tryz.ntmps302 rfl rfl rfl rfl rfl ?_
 rw[hz]
 have yA:=qK fName
 first|refine W1 ?_|exact Z1
 first|refine S0 (fun hb h=>?_) (fun hb h=>?_)|refine S1 fun hb h=>?_|refine S2 fun hb h=>?_|exact S3
 ·exact int_eq (dn (by omega)).symm
 refine ah (Hr x.aY _ (by omega) (by omega) aY) ?_
 first|refine W1 ?_|exact Z1
 first|refine S0 (fun hb h=>?_) (fun hb h=>?_)|refine S1 fun hb h=>?_|refine S2 fun hb h=>?_|exact S3
 ·have h':=dO h
  exact int_eq (dn (by omega)).symm
 have JR:=eu h
 simp only[JR.1]
 refine ah (sI x.bO _ (by omega) (by omega) bO) ?_
 first|refine W1 ?_|exact Z1
 first|refine S0 (fun hb h=>?_) (fun hb h=>?_)|refine S1 fun hb h=>?_|refine S2 fun hb h=>?_|exact S3
 ·have h':=dO h
  exact int_eq (dn (by omega)).symm
 have JU:=eu h
 simp only[JU.1]
 refine ah (nH x.aF _ (by omega) (by omega) aF) ?_
 first|refine W1 ?_|exact Z1
 first|refine S0 (fun hb h=>?_) (fun hb h=>?_)|refine S1 fun hb h=>?_|refine S2 fun hb h=>?_|exact S3
 ·have h':=dO h
  exact int_eq (dn (by omega)).symm
 have hVars:=eu h
 simp only[hVars.1]
 refine ah (C8 x.fBody _ (by omega) (by omega) fBody) ?_
 first|refine W1 ?_|exact Z1
 first|refine S0 (fun hb h=>?_) (fun hb h=>?_)|refine S1 fun hb h=>?_|refine S2 fun hb h=>?_|exact S3
 ·have h':=dO h
  exact int_eq (dn (by omega)).symm
 have BA:=eu h
 simp only[BA.1]
 refine int_eq ?_
 rw[fU (by omega)]
 omega
theorem Iy(xs:List aR):∀left:Int,0≤left→left≤1048576→(D.sl (xs.map aR.enc)).Fit→aG Tryz.prog 240 [.c (.d (.sl (xs.map aR.enc))),.c (.d (.i .i64 left))] (.c (.d (.i .i64 (dD left (xs.length+aI (xs.map aR.enc)))))):=by
 intro left h0 h1 hf S
 obtain⟨hf1,hf2⟩:=qj hf
 rw[List.length_map] at hf1
 refine aA (rs:=[.tmp 4]) Tryz.checked.mixed Tryz.func240 Tryz.ntmps240 rfl rfl rfl rfl rfl ?_
 first|refine W1 ?_|exact Z1
 first|refine S0 (fun hb h=>?_) (fun hb h=>?_)|refine S1 fun hb h=>?_|refine S2 fun hb h=>?_|exact S3
 ·exact int_eq (dn (by omega)).symm
 refine aV (ι:=Nat×Int) Tryz.checked.mixed rfl [0,1,5] (fun y=>[.c (.d (.sl (xs.map aR.enc))),.c (.d (.i .i64 y.2)),.c (.d (.i .i64 y.1))]) (fun _=>[]::S)
  (fun y=>y.1≤xs.length∧0≤y.2∧y.2≤1048576∧dD y.2 (aI ((xs.map aR.enc).drop y.1))=dD left (xs.length+aI (xs.map aR.enc))) (fun y=>xs.length-y.1) (0,left-xs.length) rfl rfl ⟨by omega,by omega,by omega,?_⟩ ?_
 ·unfold dD
  rw[List.drop_zero]
  split<;>split<;>omega
 rintro⟨i,l⟩ ⟨p1,p2,p3,p4⟩
 simp only at p1 p2 p3 p4
 first|refine W1 ?_|exact Z1
 with_reducible refine aS (fun hb=> ?_) (fun hb=> ?_)<;>have h:=hb<;>(try simp only[wf_preprocess] at h)<;>simp -implicitDefEqProofs (disch:=omega) only[go_sem,hb]<;>(repeat(with_reducible refine And.intro ?_ ?_;focus first|omega|rfl|assumption|exact⟨_,rfl,rfl⟩|(simp;omega)|(simp;done)))
 ·have hi:i<xs.length:=by omega
  rw[List.drop_eq_getElem_cons (by rw[List.length_map];exact hi),aI,List.getElem_map,aR.dw] at p4
  refine W3 ?_
  refine ah (JQ xs[i] _ (by omega) (by omega) (hf2 _ (List.mem_map_of_mem (List.getElem_mem hi)))) ?_
  first|refine W1 ?_|exact Z1
  first|refine S0 (fun hb h=>?_) (fun hb h=>?_)|refine S1 fun hb h=>?_|refine S2 fun hb h=>?_|exact S3
  ·have h':=dO h
   rw[←p4,dn (by omega)]
  ·have h':=eu h
   refine bL (i+1,dD l _) (by simp only;omega) rfl rfl ⟨by simp only;omega,by simp only;omega,by simp only;omega,?_⟩
   simp only
   rw[←p4,h'.1]
   unfold dD
   split<;>split<;>omega
 ·have hi:i=xs.length:=by omega
  rw[hi,List.drop_of_length_le (by simp),aI,fU (by omega)] at p4
  rw[←p4]
  refine int_eq ?_
  omega
theorem JV(x:aR):x.sz≤1048576→aG Tryz.prog 312 [x.v] x.v:=by
 intro hsz S
 simp only[aR.sz,aR.aC,bP,bA,D.sz,List.length_map,au.dw,aj.dw] at hsz
 refine aA (rs:=[.cell 2 166]) Tryz.checked.mixed Tryz.func312 Tryz.ntmps312 rfl rfl rfl rfl rfl ?_
 first|refine W1 ?_|exact Z1
 refine ah (Ht x.aY (by omega)) ?_
 first|refine W1 ?_|exact Z1
 refine ah (sJ x.bO (by omega)) ?_
 first|refine W1 ?_|exact Z1
 refine ah (nI x.aF (by omega)) ?_
 first|refine W1 ?_|exact Z1
 refine ah (C9 x.fBody (by omega)) ?_
 first|refine W1 ?_|exact Z1
theorem Iz(xs:List aR):xs.length+aI (xs.map aR.enc)≤1048576→aG Tryz.prog 256 [.c (.d (.sl (xs.map aR.enc)))] (.c (.d (.sl (xs.map aR.enc)))):=by
 intro hsz S
 refine aA (rs:=[.tmp 2]) Tryz.checked.mixed Tryz.func256 Tryz.ntmps256 rfl rfl rfl rfl rfl ?_
 first|refine W1 ?_|exact Z1
 (repeat(with_reducible refine And.intro ?_ ?_;focus first|omega|rfl|assumption|exact⟨_,rfl,rfl⟩|(simp;omega)|(simp;done)))
 refine aV (ι:=Nat×List (List D)) Tryz.checked.mixed rfl [0,3,4] (fun y=>[.c (.d (.sl (xs.map aR.enc))),.c (.iy (0,0)),.c (.d (.i .i64 y.1))]) (fun y=>[.eZ 16 y.2]::S)
  (fun y=>y.1≤xs.length∧eD 16 y.1 y.2 (xs.map aR.enc)) (fun y=>xs.length-y.1) (0,_) rfl rfl ⟨Nat.zero_le _,eD.start (by simp) rfl⟩ ?_
 rintro⟨i,R⟩ ⟨p1,p2⟩
 simp only at p1 p2
 first|refine W1 ?_|exact Z1
 with_reducible refine aS (fun hb=> ?_) (fun hb=> ?_)<;>have h:=hb<;>(try simp only[wf_preprocess] at h)<;>simp -implicitDefEqProofs (disch:=omega) only[go_sem,hb]<;>(repeat(with_reducible refine And.intro ?_ ?_;focus first|omega|rfl|assumption|exact⟨_,rfl,rfl⟩|(simp;omega)|(simp;done)))
 ·have hi:i<xs.length:=by omega
  have hx:xs[i].sz≤aI (xs.map aR.enc):=bI (List.mem_map_of_mem (List.getElem_mem hi))
  refine W3 ?_
  refine ah (JV xs[i] (by omega)) ?_
  first|refine W1 ?_|exact Z1
  have hR:=p2.1
  rw[List.length_map] at hR
  (repeat(with_reducible refine And.intro ?_ ?_;focus first|omega|rfl|assumption|exact⟨_,rfl,rfl⟩|(simp;omega)|(simp;done)))
  refine bL (i+1,_) (by simp only;omega) rfl rfl ⟨by simp only;omega,p2.step (by simp[hi,au.aC,aR.aC,aj.aC]) rfl⟩
 ·have hi:i=xs.length:=by omega
  rw[p2.done (by rw[List.length_map];omega)]
theorem JW(x:aR):∀y:aR,x.sz≤1048576→aG Tryz.prog 234 [x.v,y.v] (.c (.d (.b (dec (x=y))))):=by
 intro y hsz S
 simp only[aR.sz,aR.aC,bP,bA,D.sz,List.length_map,au.dw,aj.dw] at hsz
 refine aA (rs:=[.tmp 4]) Tryz.checked.mixed Tryz.func234 Tryz.ntmps234 rfl rfl rfl rfl rfl ?_
 first|refine W1 ?_|exact Z1
 first|refine S0 (fun hb h=>?_) (fun hb h=>?_)|refine S1 fun hb h=>?_|refine S2 fun hb h=>?_|exact S3
 ·exact aB (aH (fun e=>h (by rw[e]))).symm
 have ow:=h
 clear h
 refine ah (Hu x.aY _ (by omega)) ?_
 first|refine W1 ?_|exact Z1
 first|refine S0 (fun hb h=>?_) (fun hb h=>?_)|refine S1 fun hb h=>?_|refine S2 fun hb h=>?_|exact S3
 ·exact aB (aH (fun e=>h (by rw[e]))).symm
 have JX:=h
 clear h
 refine ah (sK x.bO _ (by omega)) ?_
 first|refine W1 ?_|exact Z1
 first|refine S0 (fun hb h=>?_) (fun hb h=>?_)|refine S1 fun hb h=>?_|refine S2 fun hb h=>?_|exact S3
 ·exact aB (aH (fun e=>h (by rw[e]))).symm
 have JY:=h
 clear h
 first|refine S0 (fun hb h=>?_) (fun hb h=>?_)|refine S1 fun hb h=>?_|refine S2 fun hb h=>?_|exact S3
 ·exact aB (aH (fun e=>h (by rw[e]))).symm
 have Qu:=h
 clear h
 refine ah (nJ x.aF _ (by omega)) ?_
 first|refine W1 ?_|exact Z1
 first|refine S0 (fun hb h=>?_) (fun hb h=>?_)|refine S1 fun hb h=>?_|refine S2 fun hb h=>?_|exact S3
 ·exact aB (aH (fun e=>h (by rw[e]))).symm
 have vF:=h
 clear h
 refine ah (Da x.fBody _ (by omega)) ?_
 first|refine W1 ?_|exact Z1
 first|refine S0 (fun hb h=>?_) (fun hb h=>?_)|refine S1 fun hb h=>?_|refine S2 fun hb h=>?_|exact S3
 ·exact aB (aH (fun e=>h (by rw[e]))).symm
 have BD:=h
 clear h
 exact aB (bJ (aR.ext' ow JX JY Qu vF BD)).symm
theorem IB(xs:List aR):∀ys:List aR,xs.length+aI (xs.map aR.enc)≤1048576→aG Tryz.prog 140 [.c (.d (.sl (xs.map aR.enc))),.c (.d (.sl (ys.map aR.enc)))] (.c (.d (.b (dec (xs=ys))))):=by
 intro ys hsz S
 refine aA (rs:=[.tmp 4]) Tryz.checked.mixed Tryz.func140 Tryz.ntmps140 rfl rfl rfl rfl rfl ?_
 first|refine W1 ?_|exact Z1
 first|refine S0 (fun hb h=>?_) (fun hb h=>?_)|refine S1 fun hb h=>?_|refine S2 fun hb h=>?_|exact S3
 ·exact aB (aH (fun e=>h (by rw[e]))).symm
 have hl:xs.length=ys.length:=by omega
 refine aV (ι:=Nat) Tryz.checked.mixed rfl [0,1,5] (fun y=>[.c (.d (.sl (xs.map aR.enc))),.c (.d (.sl (ys.map aR.enc))),.c (.d (.i .i64 y))]) (fun y=>[]::S)
  (fun i=>i≤xs.length∧∀j,j<i→xs[j]? =ys[j]?) (fun y=>xs.length-y) 0 rfl rfl ⟨Nat.zero_le _,fun j h=>by omega⟩ ?_
 rintro i ⟨p1,p2⟩
 first|refine W1 ?_|exact Z1
 with_reducible refine aS (fun hb=> ?_) (fun hb=> ?_)<;>have h:=hb<;>(try simp only[wf_preprocess] at h)<;>simp -implicitDefEqProofs (disch:=omega) only[go_sem,hb]<;>(repeat(with_reducible refine And.intro ?_ ?_;focus first|omega|rfl|assumption|exact⟨_,rfl,rfl⟩|(simp;omega)|(simp;done)))
 ·have hi:i<xs.length:=by omega
  have hi':i<ys.length:=by omega
  have hx:xs[i].sz≤aI (xs.map aR.enc):=bI (List.mem_map_of_mem (List.getElem_mem hi))
  refine W3 ?_
  refine ah (JW xs[i] ys[i] (by omega)) ?_
  first|refine W1 ?_|exact Z1
  first|refine S0 (fun hb h=>?_) (fun hb h=>?_)|refine S1 fun hb h=>?_|refine S2 fun hb h=>?_|exact S3
  ·exact aB (aH (fun e=>h (by simp only[e]))).symm
  refine bL (i+1) (by omega) rfl rfl ⟨by omega,fun j hj=> ?_⟩
  by_cases e:j=i
  ·subst e
   rw[List.getElem?_eq_getElem hi,List.getElem?_eq_getElem hi',h]
  ·exact p2 j (by omega)
 ·have hi:i=xs.length:=by omega
  refine aB (bJ (List.ext_getElem? fun j=> ?_)).symm
  by_cases hj:j<i
  ·exact p2 j hj
  ·rw[List.getElem?_eq_none (by omega),List.getElem?_eq_none (by omega)]
end Go.Proofs.YtlmhknhlmicmeaaGreatDoor
namespace Go.Proofs.YtlmhknhlmicmeaaGreatDoor
open Go Go.Ab
theorem TN(x:bn):∀left:Int,0≤left→left≤1048576→lU x.enc→aG Tryz.prog 147 [x.v,.c (.d (.i .i64 left))] (.c (.d (.i .i64 (dD left x.sz)))):=by
 intro left h0 h1 hf S
 simp only[bn.aC,List.cons_append,List.nil_append,jh,je,iV,and_true] at hf
 obtain⟨fName,bN,ou,bY,aD⟩:=hf
 have hz:x.sz=x.fName.length+((x.bN.length+aI (x.bN.map encS))+((x.aD.length+aI (x.aD.map aR.enc)))):=by
  simp only[bn.sz,bn.aC,bP,bA,D.sz,List.length_map,Nat.add_zero,Nat.zero_add]<;>omega
 refine aA (rs:=[.tmp 4]) Tryz.checked.mixed Tryz.func147 Tryz.ntmps147 rfl rfl rfl rfl rfl ?_
 rw[hz]
 have yA:=qK fName
 first|refine W1 ?_|exact Z1
 first|refine S0 (fun hb h=>?_) (fun hb h=>?_)|refine S1 fun hb h=>?_|refine S2 fun hb h=>?_|exact S3
 ·exact int_eq (dn (by omega)).symm
 refine ah (nH x.bN _ (by omega) (by omega) bN) ?_
 first|refine W1 ?_|exact Z1
 first|refine S0 (fun hb h=>?_) (fun hb h=>?_)|refine S1 fun hb h=>?_|refine S2 fun hb h=>?_|exact S3
 ·have h':=dO h
  exact int_eq (dn (by omega)).symm
 have OU:=eu h
 simp only[OU.1]
 refine ah (Iy x.aD _ (by omega) (by omega) aD) ?_
 first|refine W1 ?_|exact Z1
 first|refine S0 (fun hb h=>?_) (fun hb h=>?_)|refine S1 fun hb h=>?_|refine S2 fun hb h=>?_|exact S3
 ·have h':=dO h
  exact int_eq (dn (by omega)).symm
 have Qv:=eu h
 simp only[Qv.1]
 refine int_eq ?_
 rw[fU (by omega)]
 omega
theorem Qw(xs:List bn):∀left:Int,0≤left→left≤1048576→(D.sl (xs.map bn.enc)).Fit→aG Tryz.prog 48 [.c (.d (.sl (xs.map bn.enc))),.c (.d (.i .i64 left))] (.c (.d (.i .i64 (dD left (xs.length+aI (xs.map bn.enc)))))):=by
 intro left h0 h1 hf S
 obtain⟨hf1,hf2⟩:=qj hf
 rw[List.length_map] at hf1
 refine aA (rs:=[.tmp 4]) Tryz.checked.mixed Tryz.func48 Tryz.ntmps48 rfl rfl rfl rfl rfl ?_
 first|refine W1 ?_|exact Z1
 first|refine S0 (fun hb h=>?_) (fun hb h=>?_)|refine S1 fun hb h=>?_|refine S2 fun hb h=>?_|exact S3
 ·exact int_eq (dn (by omega)).symm
 refine aV (ι:=Nat×Int) Tryz.checked.mixed rfl [0,1,5] (fun y=>[.c (.d (.sl (xs.map bn.enc))),.c (.d (.i .i64 y.2)),.c (.d (.i .i64 y.1))]) (fun _=>[]::S)
  (fun y=>y.1≤xs.length∧0≤y.2∧y.2≤1048576∧dD y.2 (aI ((xs.map bn.enc).drop y.1))=dD left (xs.length+aI (xs.map bn.enc))) (fun y=>xs.length-y.1) (0,left-xs.length) rfl rfl ⟨by omega,by omega,by omega,?_⟩ ?_
 ·unfold dD
  rw[List.drop_zero]
  split<;>split<;>omega
 rintro⟨i,l⟩ ⟨p1,p2,p3,p4⟩
 simp only at p1 p2 p3 p4
 first|refine W1 ?_|exact Z1
 with_reducible refine aS (fun hb=> ?_) (fun hb=> ?_)<;>have h:=hb<;>(try simp only[wf_preprocess] at h)<;>simp -implicitDefEqProofs (disch:=omega) only[go_sem,hb]<;>(repeat(with_reducible refine And.intro ?_ ?_;focus first|omega|rfl|assumption|exact⟨_,rfl,rfl⟩|(simp;omega)|(simp;done)))
 ·have hi:i<xs.length:=by omega
  rw[List.drop_eq_getElem_cons (by rw[List.length_map];exact hi),aI,List.getElem_map,bn.dw] at p4
  refine W3 ?_
  refine ah (TN xs[i] _ (by omega) (by omega) (hf2 _ (List.mem_map_of_mem (List.getElem_mem hi)))) ?_
  first|refine W1 ?_|exact Z1
  first|refine S0 (fun hb h=>?_) (fun hb h=>?_)|refine S1 fun hb h=>?_|refine S2 fun hb h=>?_|exact S3
  ·have h':=dO h
   rw[←p4,dn (by omega)]
  ·have h':=eu h
   refine bL (i+1,dD l _) (by simp only;omega) rfl rfl ⟨by simp only;omega,by simp only;omega,by simp only;omega,?_⟩
   simp only
   rw[←p4,h'.1]
   unfold dD
   split<;>split<;>omega
 ·have hi:i=xs.length:=by omega
  rw[hi,List.drop_of_length_le (by simp),aI,fU (by omega)] at p4
  rw[←p4]
  refine int_eq ?_
  omega
theorem TP(x:bn):x.sz≤1048576→aG Tryz.prog 164 [x.v] x.v:=by
 intro hsz S
 simp only[bn.sz,bn.aC,bP,bA,D.sz,List.length_map] at hsz
 refine aA (rs:=[.cell 2 85]) Tryz.checked.mixed Tryz.func164 Tryz.ntmps164 rfl rfl rfl rfl rfl ?_
 first|refine W1 ?_|exact Z1
 refine ah (nI x.bN (by omega)) ?_
 first|refine W1 ?_|exact Z1
 refine ah (Iz x.aD (by omega)) ?_
 first|refine W1 ?_|exact Z1
theorem Qx(xs:List bn):xs.length+aI (xs.map bn.enc)≤1048576→aG Tryz.prog 62 [.c (.d (.sl (xs.map bn.enc)))] (.c (.d (.sl (xs.map bn.enc)))):=by
 intro hsz S
 refine aA (rs:=[.tmp 2]) Tryz.checked.mixed Tryz.func62 Tryz.ntmps62 rfl rfl rfl rfl rfl ?_
 first|refine W1 ?_|exact Z1
 (repeat(with_reducible refine And.intro ?_ ?_;focus first|omega|rfl|assumption|exact⟨_,rfl,rfl⟩|(simp;omega)|(simp;done)))
 refine aV (ι:=Nat×List (List D)) Tryz.checked.mixed rfl [0,3,4] (fun y=>[.c (.d (.sl (xs.map bn.enc))),.c (.iy (0,0)),.c (.d (.i .i64 y.1))]) (fun y=>[.eZ 5 y.2]::S)
  (fun y=>y.1≤xs.length∧eD 5 y.1 y.2 (xs.map bn.enc)) (fun y=>xs.length-y.1) (0,_) rfl rfl ⟨Nat.zero_le _,eD.start (by simp) rfl⟩ ?_
 rintro⟨i,R⟩ ⟨p1,p2⟩
 simp only at p1 p2
 first|refine W1 ?_|exact Z1
 with_reducible refine aS (fun hb=> ?_) (fun hb=> ?_)<;>have h:=hb<;>(try simp only[wf_preprocess] at h)<;>simp -implicitDefEqProofs (disch:=omega) only[go_sem,hb]<;>(repeat(with_reducible refine And.intro ?_ ?_;focus first|omega|rfl|assumption|exact⟨_,rfl,rfl⟩|(simp;omega)|(simp;done)))
 ·have hi:i<xs.length:=by omega
  have hx:xs[i].sz≤aI (xs.map bn.enc):=bI (List.mem_map_of_mem (List.getElem_mem hi))
  refine W3 ?_
  refine ah (TP xs[i] (by omega)) ?_
  first|refine W1 ?_|exact Z1
  have hR:=p2.1
  rw[List.length_map] at hR
  (repeat(with_reducible refine And.intro ?_ ?_;focus first|omega|rfl|assumption|exact⟨_,rfl,rfl⟩|(simp;omega)|(simp;done)))
  refine bL (i+1,_) (by simp only;omega) rfl rfl ⟨by simp only;omega,p2.step (by simp[hi,bn.aC]) rfl⟩
 ·have hi:i=xs.length:=by omega
  rw[p2.done (by rw[List.length_map];omega)]
theorem TQ(x:bn):∀y:bn,x.sz≤1048576→aG Tryz.prog 39 [x.v,y.v] (.c (.d (.b (dec (x=y))))):=by
 intro y hsz S
 simp only[bn.sz,bn.aC,bP,bA,D.sz,List.length_map] at hsz
 refine aA (rs:=[.tmp 4]) Tryz.checked.mixed Tryz.func39 Tryz.ntmps39 rfl rfl rfl rfl rfl ?_
 first|refine W1 ?_|exact Z1
 first|refine S0 (fun hb h=>?_) (fun hb h=>?_)|refine S1 fun hb h=>?_|refine S2 fun hb h=>?_|exact S3
 ·exact aB (aH (fun e=>h (by rw[e]))).symm
 have ow:=h
 clear h
 refine ah (nJ x.bN _ (by omega)) ?_
 first|refine W1 ?_|exact Z1
 first|refine S0 (fun hb h=>?_) (fun hb h=>?_)|refine S1 fun hb h=>?_|refine S2 fun hb h=>?_|exact S3
 ·exact aB (aH (fun e=>h (by rw[e]))).symm
 have OV:=h
 clear h
 first|refine S0 (fun hb h=>?_) (fun hb h=>?_)|refine S1 fun hb h=>?_|refine S2 fun hb h=>?_|exact S3
 ·exact aB (aH (fun e=>h (by rw[e]))).symm
 have aeI:=h
 clear h
 first|refine S0 (fun hb h=>?_) (fun hb h=>?_)|refine S1 fun hb h=>?_|refine S2 fun hb h=>?_|exact S3
 ·exact aB (aH (fun e=>h (by rw[e]))).symm
 have OW:=h
 clear h
 refine ah (IB x.aD _ (by omega)) ?_
 first|refine W1 ?_|exact Z1
 first|refine S0 (fun hb h=>?_) (fun hb h=>?_)|refine S1 fun hb h=>?_|refine S2 fun hb h=>?_|exact S3
 ·exact aB (aH (fun e=>h (by rw[e]))).symm
 have Qy:=h
 clear h
 exact aB (bJ (bn.ext' ow OV aeI OW Qy)).symm
theorem Qz(xs:List bn):∀ys:List bn,xs.length+aI (xs.map bn.enc)≤1048576→aG Tryz.prog 78 [.c (.d (.sl (xs.map bn.enc))),.c (.d (.sl (ys.map bn.enc)))] (.c (.d (.b (dec (xs=ys))))):=by
 intro ys hsz S
 refine aA (rs:=[.tmp 4]) Tryz.checked.mixed Tryz.func78 Tryz.ntmps78 rfl rfl rfl rfl rfl ?_
 first|refine W1 ?_|exact Z1
 first|refine S0 (fun hb h=>?_) (fun hb h=>?_)|refine S1 fun hb h=>?_|refine S2 fun hb h=>?_|exact S3
 ·exact aB (aH (fun e=>h (by rw[e]))).symm
 have hl:xs.length=ys.length:=by omega
 refine aV (ι:=Nat) Tryz.checked.mixed rfl [0,1,5] (fun y=>[.c (.d (.sl (xs.map bn.enc))),.c (.d (.sl (ys.map bn.enc))),.c (.d (.i .i64 y))]) (fun y=>[]::S)
  (fun i=>i≤xs.length∧∀j,j<i→xs[j]? =ys[j]?) (fun y=>xs.length-y) 0 rfl rfl ⟨Nat.zero_le _,fun j h=>by omega⟩ ?_
 rintro i ⟨p1,p2⟩
 first|refine W1 ?_|exact Z1
 with_reducible refine aS (fun hb=> ?_) (fun hb=> ?_)<;>have h:=hb<;>(try simp only[wf_preprocess] at h)<;>simp -implicitDefEqProofs (disch:=omega) only[go_sem,hb]<;>(repeat(with_reducible refine And.intro ?_ ?_;focus first|omega|rfl|assumption|exact⟨_,rfl,rfl⟩|(simp;omega)|(simp;done)))
 ·have hi:i<xs.length:=by omega
  have hi':i<ys.length:=by omega
  have hx:xs[i].sz≤aI (xs.map bn.enc):=bI (List.mem_map_of_mem (List.getElem_mem hi))
  refine W3 ?_
  refine ah (TQ xs[i] ys[i] (by omega)) ?_
  first|refine W1 ?_|exact Z1
  first|refine S0 (fun hb h=>?_) (fun hb h=>?_)|refine S1 fun hb h=>?_|refine S2 fun hb h=>?_|exact S3
  ·exact aB (aH (fun e=>h (by simp only[e]))).symm
  refine bL (i+1) (by omega) rfl rfl ⟨by omega,fun j hj=> ?_⟩
  by_cases e:j=i
  ·subst e
   rw[List.getElem?_eq_getElem hi,List.getElem?_eq_getElem hi',h]
  ·exact p2 j (by omega)
 ·have hi:i=xs.length:=by omega
  refine aB (bJ (List.ext_getElem? fun j=> ?_)).symm
  by_cases hj:j<i
  ·exact p2 j hj
  ·rw[List.getElem?_eq_none (by omega),List.getElem?_eq_none (by omega)]
end Go.Proofs.YtlmhknhlmicmeaaGreatDoor
namespace Go.Proofs.YtlmhknhlmicmeaaGreatDoor
open Go Go.Ab
theorem FW(x:aK):∀left:Int,0≤left→left≤1048576→lU x.enc→aG Tryz.prog 303 [x.v,.c (.d (.i .i64 left))] (.c (.d (.i .i64 (dD left x.sz)))):=by
 intro left h0 h1 hf S
 simp only[aK.aC,List.cons_append,List.nil_append,jh,je,iV,and_true] at hf
 obtain⟨fName,fA⟩:=hf
 have hz:x.sz=x.fName.length+((x.fA.length+aI (x.fA.map aj.enc))):=by
  simp only[aK.sz,aK.aC,bP,bA,D.sz,List.length_map,Nat.add_zero,Nat.zero_add]<;>omega
 refine aA (rs:=[.tmp 4]) Tryz.checked.mixed Tryz.func303 Tryz.ntmps303 rfl rfl rfl rfl rfl ?_
 rw[hz]
 have yA:=qK fName
 first|refine W1 ?_|exact Z1
 first|refine S0 (fun hb h=>?_) (fun hb h=>?_)|refine S1 fun hb h=>?_|refine S2 fun hb h=>?_|exact S3
 ·exact int_eq (dn (by omega)).symm
 refine ah (Hr x.fA _ (by omega) (by omega) fA) ?_
 first|refine W1 ?_|exact Z1
 first|refine S0 (fun hb h=>?_) (fun hb h=>?_)|refine S1 fun hb h=>?_|refine S2 fun hb h=>?_|exact S3
 ·have h':=dO h
  exact int_eq (dn (by omega)).symm
 have aaT:=eu h
 simp only[aaT.1]
 refine int_eq ?_
 rw[fU (by omega)]
 omega
theorem EC(xs:List aK):∀left:Int,0≤left→left≤1048576→(D.sl (xs.map aK.enc)).Fit→aG Tryz.prog 241 [.c (.d (.sl (xs.map aK.enc))),.c (.d (.i .i64 left))] (.c (.d (.i .i64 (dD left (xs.length+aI (xs.map aK.enc)))))):=by
 intro left h0 h1 hf S
 obtain⟨hf1,hf2⟩:=qj hf
 rw[List.length_map] at hf1
 refine aA (rs:=[.tmp 4]) Tryz.checked.mixed Tryz.func241 Tryz.ntmps241 rfl rfl rfl rfl rfl ?_
 first|refine W1 ?_|exact Z1
 first|refine S0 (fun hb h=>?_) (fun hb h=>?_)|refine S1 fun hb h=>?_|refine S2 fun hb h=>?_|exact S3
 ·exact int_eq (dn (by omega)).symm
 refine aV (ι:=Nat×Int) Tryz.checked.mixed rfl [0,1,5] (fun y=>[.c (.d (.sl (xs.map aK.enc))),.c (.d (.i .i64 y.2)),.c (.d (.i .i64 y.1))]) (fun _=>[]::S)
  (fun y=>y.1≤xs.length∧0≤y.2∧y.2≤1048576∧dD y.2 (aI ((xs.map aK.enc).drop y.1))=dD left (xs.length+aI (xs.map aK.enc))) (fun y=>xs.length-y.1) (0,left-xs.length) rfl rfl ⟨by omega,by omega,by omega,?_⟩ ?_
 ·unfold dD
  rw[List.drop_zero]
  split<;>split<;>omega
 rintro⟨i,l⟩ ⟨p1,p2,p3,p4⟩
 simp only at p1 p2 p3 p4
 first|refine W1 ?_|exact Z1
 with_reducible refine aS (fun hb=> ?_) (fun hb=> ?_)<;>have h:=hb<;>(try simp only[wf_preprocess] at h)<;>simp -implicitDefEqProofs (disch:=omega) only[go_sem,hb]<;>(repeat(with_reducible refine And.intro ?_ ?_;focus first|omega|rfl|assumption|exact⟨_,rfl,rfl⟩|(simp;omega)|(simp;done)))
 ·have hi:i<xs.length:=by omega
  rw[List.drop_eq_getElem_cons (by rw[List.length_map];exact hi),aI,List.getElem_map,aK.dw] at p4
  refine W3 ?_
  refine ah (FW xs[i] _ (by omega) (by omega) (hf2 _ (List.mem_map_of_mem (List.getElem_mem hi)))) ?_
  first|refine W1 ?_|exact Z1
  first|refine S0 (fun hb h=>?_) (fun hb h=>?_)|refine S1 fun hb h=>?_|refine S2 fun hb h=>?_|exact S3
  ·have h':=dO h
   rw[←p4,dn (by omega)]
  ·have h':=eu h
   refine bL (i+1,dD l _) (by simp only;omega) rfl rfl ⟨by simp only;omega,by simp only;omega,by simp only;omega,?_⟩
   simp only
   rw[←p4,h'.1]
   unfold dD
   split<;>split<;>omega
 ·have hi:i=xs.length:=by omega
  rw[hi,List.drop_of_length_le (by simp),aI,fU (by omega)] at p4
  rw[←p4]
  refine int_eq ?_
  omega
theorem FX(x:aK):x.sz≤1048576→aG Tryz.prog 313 [x.v] x.v:=by
 intro hsz S
 simp only[aK.sz,aK.aC,bP,bA,D.sz,List.length_map] at hsz
 refine aA (rs:=[.cell 2 202]) Tryz.checked.mixed Tryz.func313 Tryz.ntmps313 rfl rfl rfl rfl rfl ?_
 first|refine W1 ?_|exact Z1
 refine ah (Ht x.fA (by omega)) ?_
 first|refine W1 ?_|exact Z1
theorem ED(xs:List aK):xs.length+aI (xs.map aK.enc)≤1048576→aG Tryz.prog 257 [.c (.d (.sl (xs.map aK.enc)))] (.c (.d (.sl (xs.map aK.enc)))):=by
 intro hsz S
 refine aA (rs:=[.tmp 2]) Tryz.checked.mixed Tryz.func257 Tryz.ntmps257 rfl rfl rfl rfl rfl ?_
 first|refine W1 ?_|exact Z1
 (repeat(with_reducible refine And.intro ?_ ?_;focus first|omega|rfl|assumption|exact⟨_,rfl,rfl⟩|(simp;omega)|(simp;done)))
 refine aV (ι:=Nat×List (List D)) Tryz.checked.mixed rfl [0,3,4] (fun y=>[.c (.d (.sl (xs.map aK.enc))),.c (.iy (0,0)),.c (.d (.i .i64 y.1))]) (fun y=>[.eZ 2 y.2]::S)
  (fun y=>y.1≤xs.length∧eD 2 y.1 y.2 (xs.map aK.enc)) (fun y=>xs.length-y.1) (0,_) rfl rfl ⟨Nat.zero_le _,eD.start (by simp) rfl⟩ ?_
 rintro⟨i,R⟩ ⟨p1,p2⟩
 simp only at p1 p2
 first|refine W1 ?_|exact Z1
 with_reducible refine aS (fun hb=> ?_) (fun hb=> ?_)<;>have h:=hb<;>(try simp only[wf_preprocess] at h)<;>simp -implicitDefEqProofs (disch:=omega) only[go_sem,hb]<;>(repeat(with_reducible refine And.intro ?_ ?_;focus first|omega|rfl|assumption|exact⟨_,rfl,rfl⟩|(simp;omega)|(simp;done)))
 ·have hi:i<xs.length:=by omega
  have hx:xs[i].sz≤aI (xs.map aK.enc):=bI (List.mem_map_of_mem (List.getElem_mem hi))
  refine W3 ?_
  refine ah (FX xs[i] (by omega)) ?_
  first|refine W1 ?_|exact Z1
  have hR:=p2.1
  rw[List.length_map] at hR
  (repeat(with_reducible refine And.intro ?_ ?_;focus first|omega|rfl|assumption|exact⟨_,rfl,rfl⟩|(simp;omega)|(simp;done)))
  refine bL (i+1,_) (by simp only;omega) rfl rfl ⟨by simp only;omega,p2.step (by simp[hi,aK.aC]) rfl⟩
 ·have hi:i=xs.length:=by omega
  rw[p2.done (by rw[List.length_map];omega)]
theorem FY(x:aK):∀y:aK,x.sz≤1048576→aG Tryz.prog 320 [x.v,y.v] (.c (.d (.b (dec (x=y))))):=by
 intro y hsz S
 simp only[aK.sz,aK.aC,bP,bA,D.sz,List.length_map] at hsz
 refine aA (rs:=[.tmp 4]) Tryz.checked.mixed Tryz.func320 Tryz.ntmps320 rfl rfl rfl rfl rfl ?_
 first|refine W1 ?_|exact Z1
 first|refine S0 (fun hb h=>?_) (fun hb h=>?_)|refine S1 fun hb h=>?_|refine S2 fun hb h=>?_|exact S3
 ·exact aB (aH (fun e=>h (by rw[e]))).symm
 have ow:=h
 clear h
 refine ah (Hu x.fA _ (by omega)) ?_
 first|refine W1 ?_|exact Z1
 first|refine S0 (fun hb h=>?_) (fun hb h=>?_)|refine S1 fun hb h=>?_|refine S2 fun hb h=>?_|exact S3
 ·exact aB (aH (fun e=>h (by rw[e]))).symm
 have aaU:=h
 clear h
 exact aB (bJ (aK.ext' ow aaU)).symm
theorem EF(xs:List aK):∀ys:List aK,xs.length+aI (xs.map aK.enc)≤1048576→aG Tryz.prog 271 [.c (.d (.sl (xs.map aK.enc))),.c (.d (.sl (ys.map aK.enc)))] (.c (.d (.b (dec (xs=ys))))):=by
 intro ys hsz S
 refine aA (rs:=[.tmp 4]) Tryz.checked.mixed Tryz.func271 Tryz.ntmps271 rfl rfl rfl rfl rfl ?_
 first|refine W1 ?_|exact Z1
 first|refine S0 (fun hb h=>?_) (fun hb h=>?_)|refine S1 fun hb h=>?_|refine S2 fun hb h=>?_|exact S3
 ·exact aB (aH (fun e=>h (by rw[e]))).symm
 have hl:xs.length=ys.length:=by omega
 refine aV (ι:=Nat) Tryz.checked.mixed rfl [0,1,5] (fun y=>[.c (.d (.sl (xs.map aK.enc))),.c (.d (.sl (ys.map aK.enc))),.c (.d (.i .i64 y))]) (fun y=>[]::S)
  (fun i=>i≤xs.length∧∀j,j<i→xs[j]? =ys[j]?) (fun y=>xs.length-y) 0 rfl rfl ⟨Nat.zero_le _,fun j h=>by omega⟩ ?_
 rintro i ⟨p1,p2⟩
 first|refine W1 ?_|exact Z1
 with_reducible refine aS (fun hb=> ?_) (fun hb=> ?_)<;>have h:=hb<;>(try simp only[wf_preprocess] at h)<;>simp -implicitDefEqProofs (disch:=omega) only[go_sem,hb]<;>(repeat(with_reducible refine And.intro ?_ ?_;focus first|omega|rfl|assumption|exact⟨_,rfl,rfl⟩|(simp;omega)|(simp;done)))
 ·have hi:i<xs.length:=by omega
  have hi':i<ys.length:=by omega
  have hx:xs[i].sz≤aI (xs.map aK.enc):=bI (List.mem_map_of_mem (List.getElem_mem hi))
  refine W3 ?_
  refine ah (FY xs[i] ys[i] (by omega)) ?_
  first|refine W1 ?_|exact Z1
  first|refine S0 (fun hb h=>?_) (fun hb h=>?_)|refine S1 fun hb h=>?_|refine S2 fun hb h=>?_|exact S3
  ·exact aB (aH (fun e=>h (by simp only[e]))).symm
  refine bL (i+1) (by omega) rfl rfl ⟨by omega,fun j hj=> ?_⟩
  by_cases e:j=i
  ·subst e
   rw[List.getElem?_eq_getElem hi,List.getElem?_eq_getElem hi',h]
  ·exact p2 j (by omega)
 ·have hi:i=xs.length:=by omega
  refine aB (bJ (List.ext_getElem? fun j=> ?_)).symm
  by_cases hj:j<i
  ·exact p2 j hj
  ·rw[List.getElem?_eq_none (by omega),List.getElem?_eq_none (by omega)]
end Go.Proofs.YtlmhknhlmicmeaaGreatDoor
namespace Go.Proofs.YtlmhknhlmicmeaaGreatDoor
open Go Go.Ab
theorem LW(x:aL):∀left:Int,0≤left→left≤1048576→lU x.enc→aG Tryz.prog 148 [x.v,.c (.d (.i .i64 left))] (.c (.d (.i .i64 (dD left x.sz)))):=by
 intro left h0 h1 hf S
 simp only[aL.aC,List.cons_append,List.nil_append,jh,je,iV,and_true] at hf
 obtain⟨fName,aF,aJ⟩:=hf
 have hz:x.sz=x.fName.length+((x.aF.length+aI (x.aF.map encS))+((x.aJ.length+aI (x.aJ.map aK.enc)))):=by
  simp only[aL.sz,aL.aC,bP,bA,D.sz,List.length_map,Nat.add_zero,Nat.zero_add]<;>omega
 refine aA (rs:=[.tmp 4]) Tryz.checked.mixed Tryz.func148 Tryz.ntmps148 rfl rfl rfl rfl rfl ?_
 rw[hz]
 have yA:=qK fName
 first|refine W1 ?_|exact Z1
 first|refine S0 (fun hb h=>?_) (fun hb h=>?_)|refine S1 fun hb h=>?_|refine S2 fun hb h=>?_|exact S3
 ·exact int_eq (dn (by omega)).symm
 refine ah (nH x.aF _ (by omega) (by omega) aF) ?_
 first|refine W1 ?_|exact Z1
 first|refine S0 (fun hb h=>?_) (fun hb h=>?_)|refine S1 fun hb h=>?_|refine S2 fun hb h=>?_|exact S3
 ·have h':=dO h
  exact int_eq (dn (by omega)).symm
 have hVars:=eu h
 simp only[hVars.1]
 refine ah (EC x.aJ _ (by omega) (by omega) aJ) ?_
 first|refine W1 ?_|exact Z1
 first|refine S0 (fun hb h=>?_) (fun hb h=>?_)|refine S1 fun hb h=>?_|refine S2 fun hb h=>?_|exact S3
 ·have h':=dO h
  exact int_eq (dn (by omega)).symm
 have LX:=eu h
 simp only[LX.1]
 refine int_eq ?_
 rw[fU (by omega)]
 omega
theorem JZ(xs:List aL):∀left:Int,0≤left→left≤1048576→(D.sl (xs.map aL.enc)).Fit→aG Tryz.prog 49 [.c (.d (.sl (xs.map aL.enc))),.c (.d (.i .i64 left))] (.c (.d (.i .i64 (dD left (xs.length+aI (xs.map aL.enc)))))):=by
 intro left h0 h1 hf S
 obtain⟨hf1,hf2⟩:=qj hf
 rw[List.length_map] at hf1
 refine aA (rs:=[.tmp 4]) Tryz.checked.mixed Tryz.func49 Tryz.ntmps49 rfl rfl rfl rfl rfl ?_
 first|refine W1 ?_|exact Z1
 first|refine S0 (fun hb h=>?_) (fun hb h=>?_)|refine S1 fun hb h=>?_|refine S2 fun hb h=>?_|exact S3
 ·exact int_eq (dn (by omega)).symm
 refine aV (ι:=Nat×Int) Tryz.checked.mixed rfl [0,1,5] (fun y=>[.c (.d (.sl (xs.map aL.enc))),.c (.d (.i .i64 y.2)),.c (.d (.i .i64 y.1))]) (fun _=>[]::S)
  (fun y=>y.1≤xs.length∧0≤y.2∧y.2≤1048576∧dD y.2 (aI ((xs.map aL.enc).drop y.1))=dD left (xs.length+aI (xs.map aL.enc))) (fun y=>xs.length-y.1) (0,left-xs.length) rfl rfl ⟨by omega,by omega,by omega,?_⟩ ?_
 ·unfold dD
  rw[List.drop_zero]
  split<;>split<;>omega
 rintro⟨i,l⟩ ⟨p1,p2,p3,p4⟩
 simp only at p1 p2 p3 p4
 first|refine W1 ?_|exact Z1
 with_reducible refine aS (fun hb=> ?_) (fun hb=> ?_)<;>have h:=hb<;>(try simp only[wf_preprocess] at h)<;>simp -implicitDefEqProofs (disch:=omega) only[go_sem,hb]<;>(repeat(with_reducible refine And.intro ?_ ?_;focus first|omega|rfl|assumption|exact⟨_,rfl,rfl⟩|(simp;omega)|(simp;done)))
 ·have hi:i<xs.length:=by omega
  rw[List.drop_eq_getElem_cons (by rw[List.length_map];exact hi),aI,List.getElem_map,aL.dw] at p4
  refine W3 ?_
  refine ah (LW xs[i] _ (by omega) (by omega) (hf2 _ (List.mem_map_of_mem (List.getElem_mem hi)))) ?_
  first|refine W1 ?_|exact Z1
  first|refine S0 (fun hb h=>?_) (fun hb h=>?_)|refine S1 fun hb h=>?_|refine S2 fun hb h=>?_|exact S3
  ·have h':=dO h
   rw[←p4,dn (by omega)]
  ·have h':=eu h
   refine bL (i+1,dD l _) (by simp only;omega) rfl rfl ⟨by simp only;omega,by simp only;omega,by simp only;omega,?_⟩
   simp only
   rw[←p4,h'.1]
   unfold dD
   split<;>split<;>omega
 ·have hi:i=xs.length:=by omega
  rw[hi,List.drop_of_length_le (by simp),aI,fU (by omega)] at p4
  rw[←p4]
  refine int_eq ?_
  omega
theorem LY(x:aL):x.sz≤1048576→aG Tryz.prog 165 [x.v] x.v:=by
 intro hsz S
 simp only[aL.sz,aL.aC,bP,bA,D.sz,List.length_map] at hsz
 refine aA (rs:=[.cell 2 110]) Tryz.checked.mixed Tryz.func165 Tryz.ntmps165 rfl rfl rfl rfl rfl ?_
 first|refine W1 ?_|exact Z1
 refine ah (nI x.aF (by omega)) ?_
 first|refine W1 ?_|exact Z1
 refine ah (ED x.aJ (by omega)) ?_
 first|refine W1 ?_|exact Z1
theorem J2(xs:List aL):xs.length+aI (xs.map aL.enc)≤1048576→aG Tryz.prog 63 [.c (.d (.sl (xs.map aL.enc)))] (.c (.d (.sl (xs.map aL.enc)))):=by
 intro hsz S
 refine aA (rs:=[.tmp 2]) Tryz.checked.mixed Tryz.func63 Tryz.ntmps63 rfl rfl rfl rfl rfl ?_
 first|refine W1 ?_|exact Z1
 (repeat(with_reducible refine And.intro ?_ ?_;focus first|omega|rfl|assumption|exact⟨_,rfl,rfl⟩|(simp;omega)|(simp;done)))
 refine aV (ι:=Nat×List (List D)) Tryz.checked.mixed rfl [0,3,4] (fun y=>[.c (.d (.sl (xs.map aL.enc))),.c (.iy (0,0)),.c (.d (.i .i64 y.1))]) (fun y=>[.eZ 3 y.2]::S)
  (fun y=>y.1≤xs.length∧eD 3 y.1 y.2 (xs.map aL.enc)) (fun y=>xs.length-y.1) (0,_) rfl rfl ⟨Nat.zero_le _,eD.start (by simp) rfl⟩ ?_
 rintro⟨i,R⟩ ⟨p1,p2⟩
 simp only at p1 p2
 first|refine W1 ?_|exact Z1
 with_reducible refine aS (fun hb=> ?_) (fun hb=> ?_)<;>have h:=hb<;>(try simp only[wf_preprocess] at h)<;>simp -implicitDefEqProofs (disch:=omega) only[go_sem,hb]<;>(repeat(with_reducible refine And.intro ?_ ?_;focus first|omega|rfl|assumption|exact⟨_,rfl,rfl⟩|(simp;omega)|(simp;done)))
 ·have hi:i<xs.length:=by omega
  have hx:xs[i].sz≤aI (xs.map aL.enc):=bI (List.mem_map_of_mem (List.getElem_mem hi))
  refine W3 ?_
  refine ah (LY xs[i] (by omega)) ?_
  first|refine W1 ?_|exact Z1
  have hR:=p2.1
  rw[List.length_map] at hR
  (repeat(with_reducible refine And.intro ?_ ?_;focus first|omega|rfl|assumption|exact⟨_,rfl,rfl⟩|(simp;omega)|(simp;done)))
  refine bL (i+1,_) (by simp only;omega) rfl rfl ⟨by simp only;omega,p2.step (by simp[hi,aL.aC]) rfl⟩
 ·have hi:i=xs.length:=by omega
  rw[p2.done (by rw[List.length_map];omega)]
theorem LZ(x:aL):∀y:aL,x.sz≤1048576→aG Tryz.prog 180 [x.v,y.v] (.c (.d (.b (dec (x=y))))):=by
 intro y hsz S
 simp only[aL.sz,aL.aC,bP,bA,D.sz,List.length_map] at hsz
 refine aA (rs:=[.tmp 4]) Tryz.checked.mixed Tryz.func180 Tryz.ntmps180 rfl rfl rfl rfl rfl ?_
 first|refine W1 ?_|exact Z1
 first|refine S0 (fun hb h=>?_) (fun hb h=>?_)|refine S1 fun hb h=>?_|refine S2 fun hb h=>?_|exact S3
 ·exact aB (aH (fun e=>h (by rw[e]))).symm
 have ow:=h
 clear h
 refine ah (nJ x.aF _ (by omega)) ?_
 first|refine W1 ?_|exact Z1
 first|refine S0 (fun hb h=>?_) (fun hb h=>?_)|refine S1 fun hb h=>?_|refine S2 fun hb h=>?_|exact S3
 ·exact aB (aH (fun e=>h (by rw[e]))).symm
 have vF:=h
 clear h
 refine ah (EF x.aJ _ (by omega)) ?_
 first|refine W1 ?_|exact Z1
 first|refine S0 (fun hb h=>?_) (fun hb h=>?_)|refine S1 fun hb h=>?_|refine S2 fun hb h=>?_|exact S3
 ·exact aB (aH (fun e=>h (by rw[e]))).symm
 have L6:=h
 clear h
 exact aB (bJ (aL.ext' ow vF L6)).symm
theorem J3(xs:List aL):∀ys:List aL,xs.length+aI (xs.map aL.enc)≤1048576→aG Tryz.prog 79 [.c (.d (.sl (xs.map aL.enc))),.c (.d (.sl (ys.map aL.enc)))] (.c (.d (.b (dec (xs=ys))))):=by
 intro ys hsz S
 refine aA (rs:=[.tmp 4]) Tryz.checked.mixed Tryz.func79 Tryz.ntmps79 rfl rfl rfl rfl rfl ?_
 first|refine W1 ?_|exact Z1
 first|refine S0 (fun hb h=>?_) (fun hb h=>?_)|refine S1 fun hb h=>?_|refine S2 fun hb h=>?_|exact S3
 ·exact aB (aH (fun e=>h (by rw[e]))).symm
 have hl:xs.length=ys.length:=by omega
 refine aV (ι:=Nat) Tryz.checked.mixed rfl [0,1,5] (fun y=>[.c (.d (.sl (xs.map aL.enc))),.c (.d (.sl (ys.map aL.enc))),.c (.d (.i .i64 y))]) (fun y=>[]::S)
  (fun i=>i≤xs.length∧∀j,j<i→xs[j]? =ys[j]?) (fun y=>xs.length-y) 0 rfl rfl ⟨Nat.zero_le _,fun j h=>by omega⟩ ?_
 rintro i ⟨p1,p2⟩
 first|refine W1 ?_|exact Z1
 with_reducible refine aS (fun hb=> ?_) (fun hb=> ?_)<;>have h:=hb<;>(try simp only[wf_preprocess] at h)<;>simp -implicitDefEqProofs (disch:=omega) only[go_sem,hb]<;>(repeat(with_reducible refine And.intro ?_ ?_;focus first|omega|rfl|assumption|exact⟨_,rfl,rfl⟩|(simp;omega)|(simp;done)))
 ·have hi:i<xs.length:=by omega
  have hi':i<ys.length:=by omega
  have hx:xs[i].sz≤aI (xs.map aL.enc):=bI (List.mem_map_of_mem (List.getElem_mem hi))
  refine W3 ?_
  refine ah (LZ xs[i] ys[i] (by omega)) ?_
  first|refine W1 ?_|exact Z1
  first|refine S0 (fun hb h=>?_) (fun hb h=>?_)|refine S1 fun hb h=>?_|refine S2 fun hb h=>?_|exact S3
  ·exact aB (aH (fun e=>h (by simp only[e]))).symm
  refine bL (i+1) (by omega) rfl rfl ⟨by omega,fun j hj=> ?_⟩
  by_cases e:j=i
  ·subst e
   rw[List.getElem?_eq_getElem hi,List.getElem?_eq_getElem hi',h]
  ·exact p2 j (by omega)
 ·have hi:i=xs.length:=by omega
  refine aB (bJ (List.ext_getElem? fun j=> ?_)).symm
  by_cases hj:j<i
  ·exact p2 j hj
  ·rw[List.getElem?_eq_none (by omega),List.getElem?_eq_none (by omega)]
end Go.Proofs.YtlmhknhlmicmeaaGreatDoor
namespace Go.Proofs.YtlmhknhlmicmeaaGreatDoor
open Go Go.Ab
end Go.Proofs.YtlmhknhlmicmeaaGreatDoor
namespace Go.Ab
theorem aaV(b:UInt8):decide (firstIdx ⟨[43,45,42,60,61].toArray⟩ b≥0)=dec ([b]∈ops):=by
 have h:∀n:Nat,n<256→decide (firstIdx ⟨[43,45,42,60,61].toArray⟩ (UInt8.ofNat n)≥0)=decide ([UInt8.ofNat n]∈ops):=by decide +kernel
 have h1:=h b.toNat (UInt8.toNat_lt b)
 rw[UInt8.ofNat_toNat] at h1
 rw[h1]
 by_cases h2:[b]∈ops
 ·rw[bJ h2];simp[h2]
 ·rw[aH h2];simp[h2]
def TR(k:Int):Int:=if k=5∨k=7∨k=11∨k=12 then 1 else if k=8∨k=10 then 2 else if k=9 then 3 else 0
def TS(k:Int):Int:=if k=4∨k=6∨k=5 then 300 else if k=7∨k=11∨k=12 then 1 else if k=8∨k=10 then 2 else if k=9 then 3 else 0
end Go.Ab
namespace Go.Proofs.YtlmhknhlmicmeaaGreatDoor
open Go Go.Ab
theorem EG(l:List UInt8)(b:UInt8):Sb Tryz.prog 376 [.c (.d (.s l)),.c (.d (.i .u8 b.toNat))] (.c (.d (.i .i64 (firstIdx ⟨l.toArray⟩ b)))):=by
 refine⟨_,Extern.BytealgIndexByte.indexByte,Tryz.func376,by kernel_rfl,by kernel_rfl,by kernel_rfl,by kernel_rfl,fun w σ S β vs hS hv=> ?_⟩
 obtain⟨hl,h⟩:=hv
 obtain⟨v0,e0,h0,_⟩:=h 0 _ rfl
 obtain⟨v1,e1,h1,_⟩:=h 1 _ rfl
 cases h0
 cases h1
 have hvs:vs=[.string ⟨l.toArray⟩,.int .u8 b.toNat]:=by
  match vs,hl,e0,e1 with
  |[x,y],_,e0,e1=>simp at e0 e1;rw[e0,e1]
 subst hvs
 refine⟨_,run_indexByte_string _ _ w,?_,rfl⟩
 have hb:(b.toNat:Int).toNat.toUInt8=b:=by simp
 rw[hb]
 exact .i _ _
theorem Dw(l:List UInt8)(b:UInt8):aG Tryz.prog 362 [.c (.d (.s l)),.c (.d (.i .u8 b.toNat))] (.c (.d (.i .i64 (firstIdx ⟨l.toArray⟩ b)))):=fun S=>by
 refine aA (rs:=[.tmp 4]) Tryz.checked.mixed Tryz.func362 Tryz.ntmps362 rfl rfl rfl rfl rfl ?_
 first|refine W1 ?_|exact Z1
 refine abN (EG l b) ?_
 first|refine W1 ?_|exact Z1
theorem QA(l:List UInt8)(b:UInt8)(hl:[b]≠l):aG Tryz.prog 380 [.c (.d (.s l)),.c (.d (.s [b]))] (.c (.d (.i .i64 (firstIdx ⟨l.toArray⟩ b)))):=fun S=>by
 have c1:decide (((1:Nat):Int)=0)=false:=rfl
 have c2:decide (((1:Nat):Int)=1)=true:=rfl
 refine aA (rs:=[.tmp 4]) Tryz.checked.mixed Tryz.func380 Tryz.ntmps380 rfl rfl rfl rfl rfl ?_
 simp -implicitDefEqProofs (disch:=omega) only[go_sem,c1,c2]
 with_reducible refine aS (fun hb=> ?_) (fun hb=> ?_)<;>have h:=hb<;>(try simp only[wf_preprocess] at h)<;>simp -implicitDefEqProofs (disch:=omega) only[go_sem,hb,c1,c2]<;>(repeat(with_reducible refine And.intro ?_ ?_;focus first|omega|rfl|assumption|exact⟨_,rfl,rfl⟩|(simp;omega)|(simp;done)))
 ·exact absurd h hl
 refine ah (Dw l b) ?_
 first|refine W2 ?_|exact Z2
theorem Wt(l:List UInt8)(b:UInt8)(hl:[b]≠l):aG Tryz.prog 368 [.c (.d (.s l)),.c (.d (.s [b]))] (.c (.d (.i .i64 (firstIdx ⟨l.toArray⟩ b)))):=fun S=>by
 refine aA (rs:=[.tmp 4]) Tryz.checked.mixed Tryz.func368 Tryz.ntmps368 rfl rfl rfl rfl rfl ?_
 first|refine W1 ?_|exact Z1
 refine ah (QA l b hl) ?_
 first|refine W2 ?_|exact Z2
theorem OX(l:List UInt8)(b:UInt8)(hl:[b]≠l):aG Tryz.prog 349 [.c (.d (.s l)),.c (.d (.s [b]))] (.c (.d (.b (decide (firstIdx ⟨l.toArray⟩ b≥0))))):=fun S=>by
 refine aA (rs:=[.tmp 4]) Tryz.checked.mixed Tryz.func349 Tryz.ntmps349 rfl rfl rfl rfl rfl ?_
 first|refine W1 ?_|exact Z1
 refine ah (Wt l b hl) ?_
 first|refine W2 ?_|exact Z2
theorem L8(s:List UInt8):aG Tryz.prog 328 [.c (.d (.s s))] (.c (.d (.b (dec (s∈ops))))):=fun S=>by
 refine aA (rs:=[.tmp 2]) Tryz.checked.mixed Tryz.func328 Tryz.ntmps328 rfl rfl rfl rfl rfl ?_
 first|refine W1 ?_|exact Z1
 first|refine S0 (fun hb h=>?_) (fun hb h=>?_)|refine S1 fun hb h=>?_|refine S2 fun hb h=>?_|exact S3
 ·obtain⟨b,rfl⟩:=List.length_eq_one_iff.1 (show s.length=1 by omega)
  refine ah (OX [43,45,42,60,61] b (by intro x;cases x)) ?_
  first|refine W2 ?_|exact Z2
  exact aB (aaV b)
 ·exact aB (aH fun x=>h (by rw[ab4 x];rfl)).symm
theorem Cn(t:aj):aG Tryz.prog 238 [t.v] (.c (.d (.b (dec (vI t))))):=fun S=>by
 refine aA (rs:=[.tmp 2]) Tryz.checked.mixed Tryz.func238 Tryz.ntmps238 rfl rfl rfl rfl rfl ?_
 first|refine W1 ?_|exact Z1
 repeat' (first
  |with_reducible refine aS (fun hb=> ?_) (fun hb=> ?_)<;>have h:=hb<;>(try simp only[wf_preprocess] at h)<;>simp -implicitDefEqProofs (disch:=omega) only[go_sem,hb]<;>(repeat(with_reducible refine And.intro ?_ ?_;focus first|omega|rfl|assumption|exact⟨_,rfl,rfl⟩|(simp;omega)|(simp;done)))
  |(refine aB ?_;unfold vI;grind [bJ,aH,ji,iW]))
theorem Fb(k:Int):aG Tryz.prog 327 [.c (.d (.i .i64 k))] (.iO [(false,[.d (.i .i64 (TR k))]),(false,[.d (.i .i64 (TS k))])]):=fun S=>by
 refine aA (rs:=[.tmp 2,.tmp 3]) Tryz.checked.mixed Tryz.func327 Tryz.ntmps327 rfl rfl rfl rfl rfl ?_
 first|refine W1 ?_|exact Z1
 repeat' (first
  |with_reducible refine aS (fun hb=> ?_) (fun hb=> ?_)<;>have h:=hb<;>(try simp only[wf_preprocess] at h)<;>simp -implicitDefEqProofs (disch:=omega) only[go_sem,hb]<;>(repeat(with_reducible refine And.intro ?_ ?_;focus first|omega|rfl|assumption|exact⟨_,rfl,rfl⟩|(simp;omega)|(simp;done)))
  |(unfold TR TS;grind))
end Go.Proofs.YtlmhknhlmicmeaaGreatDoor
namespace Go.Ab
theorem Wu(b:UInt8):decide (firstIdx ⟨[39,45,43,42,60,61,46].toArray⟩ b≥0)=decide (b∈([39,45,43,42,60,61,46]:List UInt8)):=by
 have h:∀n:Nat,n<256→decide (firstIdx ⟨[39,45,43,42,60,61,46].toArray⟩ (UInt8.ofNat n)≥0)=decide (UInt8.ofNat n∈([39,45,43,42,60,61,46]:List UInt8)):=by decide +kernel
 have h1:=h b.toNat (UInt8.toNat_lt b)
 rwa [UInt8.ofNat_toNat] at h1
theorem Y2(b:UInt8):b∈([39,45,43,42,60,61,46]:List UInt8)↔(b.toNat=39∨b.toNat=45∨b.toNat=43∨b.toNat=42∨b.toNat=60∨b.toNat=61∨b.toNat=46):=by
 have h:∀n:Nat,n<256→(UInt8.ofNat n∈([39,45,43,42,60,61,46]:List UInt8)↔(n=39∨n=45∨n=43∨n=42∨n=60∨n=61∨n=46)):=by decide +kernel
 have h1:=h b.toNat (UInt8.toNat_lt b)
 rwa [UInt8.ofNat_toNat] at h1
theorem sQ(b:UInt8):jY b=true↔(97≤b.toNat∧b.toNat≤122)∨(48≤b.toNat∧b.toNat≤57)∨b.toNat=39∨b.toNat=45∨b.toNat=43∨b.toNat=42∨b.toNat=60∨b.toNat=61∨b.toNat=46:=by
 unfold jY
 rw[Bool.or_eq_true,Bool.or_eq_true,decide_eq_true_eq,decide_eq_true_eq,decide_eq_true_eq,Y2,or_assoc]
theorem all_false{s:List UInt8}{i:Nat}(hi:i<s.length)(h:jY s[i]=false):s.all jY=false:=by
 rw[List.all_eq_false]
 exact⟨s[i],List.getElem_mem hi,by simp[h]⟩
theorem all_true{s:List UInt8}(h:∀j (hj:j<s.length),jY s[j]=true):s.all jY=true:=by
 rw[List.all_eq_true]
 intro b hb
 obtain⟨j,hj,e⟩:=List.getElem_of_mem hb
 rw[←e];exact h j hj
theorem yH{x:ak}{i:Nat}(hi:i<x.bF.length)(h:x.sz≤67108864):x.bF[i].sz≤67108864∧x.bF.length≤67108864∧x.dI.length≤67108864:=by
 have:=Ej (List.getElem_mem hi)
 rw[zH,wC] at h
 omega
theorem AL{x:ak}(h:x.sz≤67108864):x.bF.length≤67108864∧x.dI.length≤67108864:=by
 rw[zH,wC] at h
 omega
theorem QB{l:List ak}{i:Nat}(hi:i<l.length):qp (l.drop i)=(qb l[i]&&qp (l.drop (i+1))):=by rw[List.drop_eq_getElem_cons hi,qp]
theorem Dx{l:List ak}{i:Nat}(hi:i<l.length):oH (l.drop i)=max (lW l[i]) (oH (l.drop (i+1))):=by rw[List.drop_eq_getElem_cons hi,oH]
theorem Fe{l:List ak}{i:Nat}(hi:i<l.length):nG (l.drop i)=kP l[i]+nG (l.drop (i+1)):=by rw[List.drop_eq_getElem_cons hi,nG]
theorem FZ{x:ak}(h:x.sz≤67108864):kP x≤67108865:=by have:=Oi x;omega
theorem ak.IC{x:ak}{i:Nat}(hi:i<x.bF.length):SizeOf.sizeOf x.bF[i]<SizeOf.sizeOf x:=by
 have:=List.sizeOf_lt_of_mem (List.getElem_mem hi)
 have:=ak.Av x
 omega
end Go.Ab
namespace Go.Proofs.YtlmhknhlmicmeaaGreatDoor
open Go Go.Ab
theorem IE(l:List UInt8)(b:UInt8):aG Tryz.prog 344 [.c (.d (.s l)),.c (.d (.i .u8 b.toNat))] (.c (.d (.i .i64 (firstIdx ⟨l.toArray⟩ b)))):=fun S=>by
 refine aA (rs:=[.tmp 4]) Tryz.checked.mixed Tryz.func344 Tryz.ntmps344 rfl rfl rfl rfl rfl ?_
 first|refine W1 ?_|exact Z1
 refine ah (Dw l b) ?_
 first|refine W2 ?_|exact Z2
theorem L9(b:UInt8):aG Tryz.prog 318 [.c (.d (.i .u8 b.toNat))] (.c (.d (.b (jY b)))):=fun S=>by
 refine aA (rs:=[.tmp 2]) Tryz.checked.mixed Tryz.func318 Tryz.ntmps318 rfl rfl rfl rfl rfl ?_
 first|refine W1 ?_|exact Z1
 refine ah (H9 b) ?_
 first|refine W2 ?_|exact Z2
 first|refine S0 (fun hb h=>?_) (fun hb h=>?_)|refine S1 fun hb h=>?_|refine S2 fun hb h=>?_|exact S3
 ·exact aB ((sQ b).2 (.inl h)).symm
 have h1:=h
 refine ah (Ia b) ?_
 first|refine W2 ?_|exact Z2
 first|refine S0 (fun hb h=>?_) (fun hb h=>?_)|refine S1 fun hb h=>?_|refine S2 fun hb h=>?_|exact S3
 ·exact aB ((sQ b).2 (.inr (.inl h))).symm
 have h2:=h
 refine ah (IE [39,45,43,42,60,61,46] b) ?_
 first|refine W2 ?_|exact Z2
 refine aB ?_
 rw[Wu]
 unfold jY
 unfold lowerB at h1
 unfold qm at h2
 simp[h1,h2]
theorem TT(s:List UInt8)(hs:s.length≤1073741824):aG Tryz.prog 268 [.c (.d (.s s))] (.c (.d (.b (validAtom s)))):=fun S=>by
 refine aA (rs:=[.tmp 2]) Tryz.checked.mixed Tryz.func268 Tryz.ntmps268 rfl rfl rfl rfl rfl ?_
 first|refine W1 ?_|exact Z1
 refine aV (ι:=Nat) Tryz.checked.mixed rfl [0,5,6] (fun i=>[.c (.d (.s s)),.c (.d (.i .i64 s.length)),.c (.d (.i .i64 i))]) (fun _=>[]::S)
  (fun i=>i≤s.length∧∀j,∀hj:j<s.length,j<i→jY s[j]=true) (fun i=>s.length-i) 0 rfl rfl ⟨Nat.zero_le _,fun j _ h=>by omega⟩ ?_
 rintro i ⟨p1,p2⟩
 first|refine W1 ?_|exact Z1
 first|refine S0 (fun hb h=>?_) (fun hb h=>?_)|refine S1 fun hb h=>?_|refine S2 fun hb h=>?_|exact S3
 ·have hi:i<s.length:=by omega
  have e:s.getD i 0=s[i]:=by simp[List.getD,hi]
  refine W3 ?_
  rw[e]
  refine ah (L9 s[i]) ?_
  first|refine W2 ?_|exact Z2
  first|refine S0 (fun hb h=>?_) (fun hb h=>?_)|refine S1 fun hb h=>?_|refine S2 fun hb h=>?_|exact S3
  ·exact aB (by unfold validAtom;rw[all_false hi h];rfl)
  ·refine bL (i+1) (by omega) rfl rfl ⟨by omega,fun j hj hji=> ?_⟩
   by_cases e':j=i
   ·subst e';exact h
   ·exact p2 j hj (by omega)
 ·have ha:=all_true (s:=s) (fun j hj=>p2 j hj (by omega))
  first|refine S0 (fun hb h=>?_) (fun hb h=>?_)|refine S1 fun hb h=>?_|refine S2 fun hb h=>?_|exact S3
  ·refine aB ?_
   unfold validAtom
   rw[ha,Bool.true_and]
   exact decide_eq_decide.2 (by omega)
  ·refine aB ?_
   unfold validAtom
   rw[ha,Bool.true_and]
   exact(decide_eq_false (by omega)).symm
theorem Wv(b:UInt8):aG Tryz.prog 322 [.c (.d (.i .u8 b.toNat))] (.c (.d (.b (jY b)))):=fun S=>by
 have yes:((97≤b.toNat∧b.toNat≤122)∨(48≤b.toNat∧b.toNat≤57)∨b.toNat=39∨b.toNat=45∨b.toNat=43∨b.toNat=42∨b.toNat=60∨b.toNat=61∨b.toNat=46)→jY b=true:=(sQ b).2
 have no:¬((97≤b.toNat∧b.toNat≤122)∨(48≤b.toNat∧b.toNat≤57)∨b.toNat=39∨b.toNat=45∨b.toNat=43∨b.toNat=42∨b.toNat=60∨b.toNat=61∨b.toNat=46)→jY b=false:=fun h=>by
  cases hb:jY b with
  |false=>rfl
  |true=>exact absurd ((sQ b).1 hb) h
 refine aA (rs:=[.tmp 2]) Tryz.checked.mixed Tryz.func322 Tryz.ntmps322 rfl rfl rfl rfl rfl ?_
 first|refine W1 ?_|exact Z1
 repeat' (first|(with_reducible refine aS (fun hb=> ?_) (fun hb=> ?_)<;>have h:=hb<;>(try simp only[wf_preprocess] at h)<;>simp -implicitDefEqProofs (disch:=omega) only[go_sem,hb]<;>(repeat(with_reducible refine And.intro ?_ ?_;focus first|omega|rfl|assumption|exact⟨_,rfl,rfl⟩|(simp;omega)|(simp;done)))))
 all_goals first
  |exact aB (yes (by omega)).symm
  |exact aB (no (by omega)).symm
  |(refine aB ?_;cases hb:jY b<;>simp only[decide_eq_true_eq,decide_eq_false_iff_not]<;>(first|(have:=(sQ b).1 hb;omega)|(intro q;have:=yes (by omega);rw[hb] at this;cases this)))
theorem TU(s:List UInt8)(hs:s.length≤1073741824):aG Tryz.prog 275 [.c (.d (.s s))] (.c (.d (.b (validAtom s)))):=fun S=>by
 refine aA (rs:=[.tmp 2]) Tryz.checked.mixed Tryz.func275 Tryz.ntmps275 rfl rfl rfl rfl rfl ?_
 first|refine W1 ?_|exact Z1
 refine aV (ι:=Nat) Tryz.checked.mixed rfl [0,3] (fun i=>[.c (.d (.s s)),.c (.d (.i .i64 i))]) (fun _=>[]::S)
  (fun i=>i≤s.length∧∀j,∀hj:j<s.length,j<i→jY s[j]=true) (fun i=>s.length-i) 0 rfl rfl ⟨Nat.zero_le _,fun j _ h=>by omega⟩ ?_
 rintro i ⟨p1,p2⟩
 first|refine W1 ?_|exact Z1
 first|refine S0 (fun hb h=>?_) (fun hb h=>?_)|refine S1 fun hb h=>?_|refine S2 fun hb h=>?_|exact S3
 ·have hi:i<s.length:=by omega
  have e:s.getD i 0=s[i]:=by simp[List.getD,hi]
  refine W3 ?_
  rw[e]
  refine ah (Wv s[i]) ?_
  first|refine W2 ?_|exact Z2
  first|refine S0 (fun hb h=>?_) (fun hb h=>?_)|refine S1 fun hb h=>?_|refine S2 fun hb h=>?_|exact S3
  ·exact aB (by unfold validAtom;rw[all_false hi h];rfl)
  ·refine bL (i+1) (by omega) rfl rfl ⟨by omega,fun j hj hji=> ?_⟩
   by_cases e':j=i
   ·subst e';exact h
   ·exact p2 j hj (by omega)
 ·have ha:=all_true (s:=s) (fun j hj=>p2 j hj (by omega))
  refine ah (Aw s.length 1 12) ?_
  first|refine W2 ?_|exact Z2
  refine aB ?_
  unfold validAtom
  rw[ha,Bool.true_and,←ny]
  exact decide_eq_decide.2 (by omega)
theorem Dy:∀n:Nat,(∀x:ak,SizeOf.sizeOf x<n→x.sz≤67108864→aG Tryz.prog 177 [x.v] (.c (.d (.b (qb x)))))∧
 (∀xs:List ak,SizeOf.sizeOf xs<n→xs.length≤67108864→(∀t∈xs,t.sz≤67108864)→aG Tryz.prog 269 [.c (.d (.sl (xs.map ak.enc))),.c (.fn 270 [])] (.c (.d (.b (!qp xs)))))
 |0=>⟨fun x h=>by omega,fun x h=>by omega⟩
 |n+1=>by
  obtain⟨ih,Ih⟩:=Dy n
  refine⟨fun x hn hsz S=> ?_,fun xs hn hlen hsz S=> ?_⟩
  ·have jf:=ak.Av x
   have hts:=AL hsz
   have hall:∀t∈x.bF,t.sz≤67108864:=fun t ht=>by
    obtain⟨i,hi,e⟩:=List.getElem_of_mem ht
    rw[←e];exact(yH hi hsz).1
   have tail:=Ih x.bF (by omega) hts.1 hall
   have hf:=Og x
   refine aA (rs:=[.tmp 2]) Tryz.checked.mixed Tryz.func177 Tryz.ntmps177 rfl rfl rfl rfl rfl ?_
   first|refine W1 ?_|exact Z1
   first|refine S0 (fun hb h=>?_) (fun hb h=>?_)|refine S1 fun hb h=>?_|refine S2 fun hb h=>?_|exact S3
   ·rw[if_neg h] at hf
    refine ah (TT x.dI (by omega)) ?_
    first|refine W2 ?_|exact Z2
    first|refine S0 (fun hb h=>?_) (fun hb h=>?_)|refine S1 fun hb h=>?_|refine S2 fun hb h=>?_|exact S3
    ·rw[hf,h,Bool.true_and]
     exact aB (decide_eq_decide.2 (by omega))
    ·rw[hf,h,Bool.false_and]
   ·rw[if_pos h] at hf
    refine ah tail ?_
    first|refine W1 ?_|exact Z1
    rw[hf,Bool.not_not]
  ·have hcl:∀y∈xs,aG Tryz.prog 270 [y.v] (.c (.d (.b (!qb y)))):=fun y hy S=>by
    have hys:=List.sizeOf_lt_of_mem hy
    refine aA (rs:=[.tmp 2]) Tryz.checked.mixed Tryz.func270 Tryz.ntmps270 rfl rfl rfl rfl rfl ?_
    first|refine W1 ?_|exact Z1
    refine ah (ih y (by omega) (hsz y hy)) ?_
    first|refine W2 ?_|exact Z2
   have hidx:aG Tryz.prog 319 [.c (.d (.sl (xs.map ak.enc))),.c (.fn 270 [])] (.c (.d (.i .i64 (qo (fun y=> !qb y) xs)))):=fun S=>by
    refine aA (rs:=[.tmp 4]) Tryz.checked.mixed Tryz.func319 Tryz.ntmps319 rfl rfl rfl rfl rfl ?_
    first|refine W1 ?_|exact Z1
    refine aV (ι:=Nat) Tryz.checked.mixed rfl [0,1,7,8] (fun i=>[.c (.d (.sl (xs.map ak.enc))),.c (.fn 270 []),.c (.d (.i .i64 xs.length)),.c (.d (.i .i64 i))]) (fun _=>[]::S)
     (fun i=>i≤xs.length∧∀j,∀hj:j<xs.length,j<i→qb xs[j]=true) (fun i=>xs.length-i) 0 rfl rfl ⟨Nat.zero_le _,fun j _ h=>by omega⟩ ?_
    rintro i ⟨p1,p2⟩
    first|refine W1 ?_|exact Z1
    with_reducible refine aS (fun hb=> ?_) (fun hb=> ?_)<;>have h:=hb<;>(try simp only[wf_preprocess] at h)<;>simp -implicitDefEqProofs (disch:=omega) only[go_sem,hb]<;>(repeat(with_reducible refine And.intro ?_ ?_;focus first|omega|rfl|assumption|exact⟨_,rfl,rfl⟩|(simp;omega)|(simp;done)))
    ·have hi:i<xs.length:=by omega
     refine W3 ?_
     refine ah (hcl xs[i] (List.getElem_mem hi)) ?_
     first|refine W2 ?_|exact Z2
     first|refine S0 (fun hb h=>?_) (fun hb h=>?_)|refine S1 fun hb h=>?_|refine S2 fun hb h=>?_|exact S3
     ·rw[pU hi (fun j hj hji=>by rw[p2 j hj hji];rfl) (by rw[h];rfl)]
     ·refine bL (i+1) (by omega) rfl rfl ⟨by omega,fun j hj hji=> ?_⟩
      by_cases e:j=i
      ·subst e;exact h
      ·exact p2 j hj (by omega)
    ·rw[sG (fun j hj=>by rw[p2 j hj (by omega)];rfl)]
   refine aA (rs:=[.tmp 4]) Tryz.checked.mixed Tryz.func269 Tryz.ntmps269 rfl rfl rfl rfl rfl ?_
   first|refine W1 ?_|exact Z1
   refine ah (hidx) ?_
   first|refine W2 ?_|exact Z2
   rw[←Hq]
   exact aB qM
theorem QC(x:ak)(hsz:x.sz≤67108864):aG Tryz.prog 177 [x.v] (.c (.d (.b (qb x)))):=(Dy _).1 x (Nat.lt_succ_self _) hsz
theorem AO:∀n:Nat,∀x:ak,SizeOf.sizeOf x<n→x.sz≤67108864→aG Tryz.prog 178 [x.v] (.c (.d (.i .i64 (lW x))))
 |0=>fun x h=>by omega
 |n+1=>by
  have ih:=AO n
  intro x hn hsz S
  have hts:=AL hsz
  have hd:=KT x
  have hd1:=zW x
  have hd2:=FZ hsz
  refine aA (rs:=[.tmp 2]) Tryz.checked.mixed Tryz.func178 Tryz.ntmps178 rfl rfl rfl rfl rfl ?_
  first|refine W1 ?_|exact Z1
  first|refine S0 (fun hb h=>?_) (fun hb h=>?_)|refine S1 fun hb h=>?_|refine S2 fun hb h=>?_|exact S3
  ·rw[if_neg h] at hd
   rw[hd];rfl
  rw[if_pos h] at hd
  refine aV (ι:=Nat×Nat) Tryz.checked.mixed rfl [3,10,11,12] (fun y=>[.c (.d (.i .i64 y.2)),.c (.d (.sl (x.bF.map ak.enc))),.c (.d (.i .i64 x.bF.length)),.c (.d (.i .i64 y.1))]) (fun y=>[.box [.d (.s x.dI),.d (.sl (x.bF.map ak.enc))]]::S)
   (fun y=>y.1≤x.bF.length∧lW x=max y.2 (oH (x.bF.drop y.1))+1) (fun y=>x.bF.length-y.1) (0,0) rfl rfl ⟨Nat.zero_le _,by simp[hd]⟩ ?_
  rintro⟨i,c⟩ ⟨p1,p2⟩
  simp only at p1 p2
  first|refine W1 ?_|exact Z1
  with_reducible refine aS (fun hb=> ?_) (fun hb=> ?_)<;>have h:=hb<;>(try simp only[wf_preprocess] at h)<;>simp -implicitDefEqProofs (disch:=omega) only[go_sem,hb]<;>(repeat(with_reducible refine And.intro ?_ ?_;focus first|omega|rfl|assumption|exact⟨_,rfl,rfl⟩|(simp;omega)|(simp;done)))
  ·have hi:i<x.bF.length:=by omega
   have hsz':=yH hi hsz
   rw[Dx hi] at p2
   refine W3 ?_
   refine ah (ih x.bF[i] (by have:=ak.IC hi;omega) (by omega)) ?_
   first|refine W2 ?_|exact Z2
   rw[show max (c:Int) ((lW x.bF[i]:Int))=((max c (lW x.bF[i]):Nat):Int) by omega]
   exact dz 1 (by decide) (i+1,max c (lW x.bF[i])) (by simp only;omega) rfl rfl rfl rfl ⟨by simp only;omega,by simp only;omega⟩
  ·have hi:i=x.bF.length:=by omega
   rw[hi,List.drop_length,oH] at p2
   refine W3 ?_
   exact int_eq (by omega)
theorem Ma(x:ak)(hsz:x.sz≤67108864):aG Tryz.prog 178 [x.v] (.c (.d (.i .i64 (lW x)))):=AO _ x (Nat.lt_succ_self _) hsz
theorem Co:∀n:Nat,∀x:ak,SizeOf.sizeOf x<n→x.sz≤67108864→aG Tryz.prog 179 [x.v] (.c (.d (.i .i64 (kP x))))
 |0=>fun x h=>by omega
 |n+1=>by
  have ih:=Co n
  intro x hn hsz S
  have hts:=AL hsz
  have hd2:=FZ hsz
  refine aA (rs:=[.tmp 2]) Tryz.checked.mixed Tryz.func179 Tryz.ntmps179 rfl rfl rfl rfl rfl ?_
  first|refine W1 ?_|exact Z1
  refine aV (ι:=Nat×Nat) Tryz.checked.mixed rfl [3,7,8,9] (fun y=>[.c (.d (.i .i64 y.2)),.c (.d (.sl (x.bF.map ak.enc))),.c (.d (.i .i64 x.bF.length)),.c (.d (.i .i64 y.1))]) (fun y=>[.box [.d (.s x.dI),.d (.sl (x.bF.map ak.enc))]]::S)
   (fun y=>y.1≤x.bF.length∧kP x=y.2+nG (x.bF.drop y.1)) (fun y=>x.bF.length-y.1) (0,1) rfl rfl ⟨Nat.zero_le _,by simp[Oh];omega⟩ ?_
  rintro⟨i,c⟩ ⟨p1,p2⟩
  simp only at p1 p2
  first|refine W1 ?_|exact Z1
  with_reducible refine aS (fun hb=> ?_) (fun hb=> ?_)<;>have h:=hb<;>(try simp only[wf_preprocess] at h)<;>simp -implicitDefEqProofs (disch:=omega) only[go_sem,hb]<;>(repeat(with_reducible refine And.intro ?_ ?_;focus first|omega|rfl|assumption|exact⟨_,rfl,rfl⟩|(simp;omega)|(simp;done)))
  ·have hi:i<x.bF.length:=by omega
   have hsz':=yH hi hsz
   rw[Fe hi] at p2
   refine W3 ?_
   refine ah (ih x.bF[i] (by have:=ak.IC hi;omega) (by omega)) ?_
   first|refine W2 ?_|exact Z2
   rw[show(c:Int)+(kP x.bF[i]:Int)=((c+kP x.bF[i]:Nat):Int) by omega]
   exact dz 1 (by decide) (i+1,c+kP x.bF[i]) (by simp only;omega) rfl rfl rfl rfl ⟨by simp only;omega,by simp only;omega⟩
  ·have hi:i=x.bF.length:=by omega
   rw[hi,List.drop_length,nG] at p2
   exact int_eq (by omega)
theorem OY(x:ak)(hsz:x.sz≤67108864):aG Tryz.prog 179 [x.v] (.c (.d (.i .i64 (kP x)))):=Co _ x (Nat.lt_succ_self _) hsz
theorem uo(x:ak)(hsz:x.sz≤67108864):aG Tryz.prog 73 [x.v] (.c (.d (.b (jI x)))):=fun S=>by
 refine aA (rs:=[.tmp 2]) Tryz.checked.mixed Tryz.func73 Tryz.ntmps73 rfl rfl rfl rfl rfl ?_
 first|refine W1 ?_|exact Z1
 refine ah (QC x hsz) ?_
 first|refine W2 ?_|exact Z2
 first|refine S0 (fun hb h=>?_) (fun hb h=>?_)|refine S1 fun hb h=>?_|refine S2 fun hb h=>?_|exact S3
 ·have hf:=h
  refine ah (Ma x hsz) ?_
  first|refine W2 ?_|exact Z2
  first|refine S0 (fun hb h=>?_) (fun hb h=>?_)|refine S1 fun hb h=>?_|refine S2 fun hb h=>?_|exact S3
  ·refine ah (OY x hsz) ?_
   first|refine W2 ?_|exact Z2
   refine aB ?_
   unfold jI
   rw[hf,Bool.true_and]
   exact decide_eq_decide.2 (by omega)
  ·refine aB ?_
   unfold jI
   rw[hf,Bool.true_and]
   exact(decide_eq_false (by omega)).symm
 ·refine aB ?_
  unfold jI
  rw[h,Bool.false_and]
theorem IG:∀n:Nat,∀x:ak,SizeOf.sizeOf x<n→∀l:Int,0≤l→l≤1073741824→x.sz≤67108864→aG Tryz.prog 194 [x.v,.c (.d (.i .i64 l))] (.c (.d (.i .i64 (dD l (kP x)))))
 |0=>fun x h=>by omega
 |n+1=>by
  have ih:=IG n
  intro x hn l h0 h1 hsz S
  have hts:=AL hsz
  have hcn:=Oh x
  refine aA (rs:=[.tmp 4]) Tryz.checked.mixed Tryz.func194 Tryz.ntmps194 rfl rfl rfl rfl rfl ?_
  first|refine W1 ?_|exact Z1
  refine aV (ι:=Nat×Int) Tryz.checked.mixed rfl [1,2,5] (fun y=>[.c (.d (.i .i64 y.2)),.c (.ptr (0,0) 0),.c (.d (.i .i64 y.1))]) (fun y=>[.box [.d (.s x.dI),.d (.sl (x.bF.map ak.enc))]]::S)
   (fun y=>y.1≤x.bF.length∧ -1≤y.2∧y.2≤1073741824∧(0≤y.2→dD l (kP x)=dD y.2 (nG (x.bF.drop y.1)))∧(y.2<0→dD l (kP x)= -1)) (fun y=>x.bF.length-y.1) (0,l-1) rfl rfl ⟨Nat.zero_le _,by simp only;omega,by simp only;omega,fun h=> ?_,fun h=> ?_⟩ ?_
  ·simp only[List.drop_zero] at h ⊢
   unfold dD
   rw[hcn]
   split<;>split<;>omega
  ·simp only at h
   exact dn (by omega)
  rintro⟨i,c⟩ ⟨p1,p2,p3,p4,p5⟩
  simp only at p1 p2 p3 p4 p5
  first|refine W1 ?_|exact Z1
  first|refine S0 (fun hb h=>?_) (fun hb h=>?_)|refine S1 fun hb h=>?_|refine S2 fun hb h=>?_|exact S3
  ·have hi:i<x.bF.length:=by omega
   first|refine S0 (fun hb h=>?_) (fun hb h=>?_)|refine S1 fun hb h=>?_|refine S2 fun hb h=>?_|exact S3
   ·have hsz':=yH hi hsz
    have p6:=p4 h
    rw[Fe hi] at p6
    refine W3 ?_
    refine ah (ih x.bF[i] (by have:=ak.IC hi;omega) c (by omega) (by omega) (by omega)) ?_
    first|refine W2 ?_|exact Z2
    refine bL (i+1,dD c _) (by simp only;omega) rfl rfl ⟨by simp only;omega,?_,?_,fun h=> ?_,fun h=> ?_⟩
    ·simp only;unfold dD;split<;>omega
    ·simp only;unfold dD;split<;>omega
    ·simp only at h ⊢
     rw[p6]
     have:=eu (l:=c) (a:=kP x.bF[i]) (by omega)
     rw[this.1]
     unfold dD
     split<;>split<;>omega
    ·simp only at h ⊢
     rw[p6]
     have:=dO h
     exact dn (by omega)
   ·have hc:c= -1:=by omega
    rw[p5 (by omega),hc]
  ·have hi:i=x.bF.length:=by omega
   by_cases hc:0≤c
   ·rw[p4 hc,hi,List.drop_length,nG,fU (by omega)]
    exact int_eq (by simp)
   ·rw[p5 (by omega)]
    exact int_eq (by omega)
theorem Ww(x:ak)(l:Int)(h0:0≤l)(h1:l≤1073741824)(hsz:x.sz≤67108864):aG Tryz.prog 194 [x.v,.c (.d (.i .i64 l))] (.c (.d (.i .i64 (dD l (kP x))))):=IG _ x (Nat.lt_succ_self _) l h0 h1 hsz
theorem II:∀n:Nat,∀x:ak,SizeOf.sizeOf x<n→x.sz≤67108864→aG Tryz.prog 195 [x.v] (.c (.d (.b (qb x))))
 |0=>fun x h=>by omega
 |n+1=>by
  have ih:=II n
  intro x hn hsz S
  have hts:=AL hsz
  have hf:=Og x
  refine aA (rs:=[.tmp 2]) Tryz.checked.mixed Tryz.func195 Tryz.ntmps195 rfl rfl rfl rfl rfl ?_
  first|refine W1 ?_|exact Z1
  first|refine S0 (fun hb h=>?_) (fun hb h=>?_)|refine S1 fun hb h=>?_|refine S2 fun hb h=>?_|exact S3
  ·rw[if_neg h] at hf
   refine ah (TU x.dI (by omega)) ?_
   first|refine W2 ?_|exact Z2
   first|refine S0 (fun hb h=>?_) (fun hb h=>?_)|refine S1 fun hb h=>?_|refine S2 fun hb h=>?_|exact S3
   ·rw[hf,h,Bool.true_and]
    exact aB (decide_eq_decide.2 (by omega))
   ·rw[hf,h,Bool.false_and]
  rw[if_pos h] at hf
  refine aV (ι:=Nat) Tryz.checked.mixed rfl [1,3] (fun y=>[.c (.ptr (0,0) 0),.c (.d (.i .i64 y))]) (fun y=>[.box [.d (.s x.dI),.d (.sl (x.bF.map ak.enc))]]::S)
   (fun y=>y≤x.bF.length∧qb x=qp (x.bF.drop y)) (fun y=>x.bF.length-y) 0 rfl rfl ⟨Nat.zero_le _,hf⟩ ?_
  rintro i ⟨p1,p2⟩
  first|refine W1 ?_|exact Z1
  with_reducible refine aS (fun hb=> ?_) (fun hb=> ?_)<;>have h:=hb<;>(try simp only[wf_preprocess] at h)<;>simp -implicitDefEqProofs (disch:=omega) only[go_sem,hb]<;>(repeat(with_reducible refine And.intro ?_ ?_;focus first|omega|rfl|assumption|exact⟨_,rfl,rfl⟩|(simp;omega)|(simp;done)))
  ·have hi:i<x.bF.length:=by omega
   have hsz':=yH hi hsz
   rw[QB hi] at p2
   refine W3 ?_
   refine ah (ih x.bF[i] (by have:=ak.IC hi;omega) (by omega)) ?_
   first|refine W2 ?_|exact Z2
   first|refine S0 (fun hb h=>?_) (fun hb h=>?_)|refine S1 fun hb h=>?_|refine S2 fun hb h=>?_|exact S3
   ·rw[p2,h,Bool.false_and]
   ·exact bL (i+1) (by omega) rfl rfl ⟨by omega,by rw[p2,h,Bool.true_and]⟩
  ·have hi:i=x.bF.length:=by omega
   rw[hi,List.drop_length,qp] at p2
   rw[p2]
theorem Wx(x:ak)(hsz:x.sz≤67108864):aG Tryz.prog 195 [x.v] (.c (.d (.b (qb x)))):=II _ x (Nat.lt_succ_self _) hsz
theorem AP:∀n:Nat,∀x:ak,SizeOf.sizeOf x<n→x.sz≤67108864→aG Tryz.prog 196 [x.v] (.c (.d (.i .i64 (lW x))))
 |0=>fun x h=>by omega
 |n+1=>by
  have ih:=AP n
  intro x hn hsz S
  have hts:=AL hsz
  have hd:=KT x
  have hd1:=zW x
  have hd2:=FZ hsz
  refine aA (rs:=[.tmp 2]) Tryz.checked.mixed Tryz.func196 Tryz.ntmps196 rfl rfl rfl rfl rfl ?_
  first|refine W1 ?_|exact Z1
  first|refine S0 (fun hb h=>?_) (fun hb h=>?_)|refine S1 fun hb h=>?_|refine S2 fun hb h=>?_|exact S3
  ·rw[if_neg h] at hd
   rw[hd];rfl
  rw[if_pos h] at hd
  refine aV (ι:=Nat×Nat) Tryz.checked.mixed rfl [1,3,4] (fun y=>[.c (.ptr (0,0) 0),.c (.d (.i .i64 y.2)),.c (.d (.i .i64 y.1))]) (fun y=>[.box [.d (.s x.dI),.d (.sl (x.bF.map ak.enc))]]::S)
   (fun y=>y.1≤x.bF.length∧lW x=max y.2 (oH (x.bF.drop y.1))+1) (fun y=>x.bF.length-y.1) (0,0) rfl rfl ⟨Nat.zero_le _,by simp[hd]⟩ ?_
  rintro⟨i,c⟩ ⟨p1,p2⟩
  simp only at p1 p2
  first|refine W1 ?_|exact Z1
  with_reducible refine aS (fun hb=> ?_) (fun hb=> ?_)<;>have h:=hb<;>(try simp only[wf_preprocess] at h)<;>simp -implicitDefEqProofs (disch:=omega) only[go_sem,hb]<;>(repeat(with_reducible refine And.intro ?_ ?_;focus first|omega|rfl|assumption|exact⟨_,rfl,rfl⟩|(simp;omega)|(simp;done)))
  ·have hi:i<x.bF.length:=by omega
   have hsz':=yH hi hsz
   rw[Dx hi] at p2
   refine W3 ?_
   refine ah (ih x.bF[i] (by have:=ak.IC hi;omega) (by omega)) ?_
   first|refine W2 ?_|exact Z2
   refine ah (Ou _ _) ?_
   first|refine W2 ?_|exact Z2
   rw[show max (c:Int) ((lW x.bF[i]:Int))=((max c (lW x.bF[i]):Nat):Int) by omega]
   exact bL (i+1,max c (lW x.bF[i])) (by simp only;omega) rfl rfl ⟨by simp only;omega,by simp only;omega⟩
  ·have hi:i=x.bF.length:=by omega
   rw[hi,List.drop_length,oH] at p2
   refine W3 ?_
   exact int_eq (by omega)
theorem Mc(x:ak)(hsz:x.sz≤67108864):aG Tryz.prog 196 [x.v] (.c (.d (.i .i64 (lW x)))):=AP _ x (Nat.lt_succ_self _) hsz
theorem Cq(x:ak)(hsz:x.sz≤67108864):aG Tryz.prog 104 [x.v] (.c (.d (.b (jI x)))):=fun S=>by
 refine aA (rs:=[.tmp 2]) Tryz.checked.mixed Tryz.func104 Tryz.ntmps104 rfl rfl rfl rfl rfl ?_
 first|refine W1 ?_|exact Z1
 refine ah (Ww x 900 (by omega) (by omega) hsz) ?_
 first|refine W2 ?_|exact Z2
 first|refine S0 (fun hb h=>?_) (fun hb h=>?_)|refine S1 fun hb h=>?_|refine S2 fun hb h=>?_|exact S3
 ·have h1:=(eu (l:=900) (a:=kP x) (by omega)).2
  refine ah (Wx x hsz) ?_
  first|refine W2 ?_|exact Z2
  first|refine S0 (fun hb h=>?_) (fun hb h=>?_)|refine S1 fun hb h=>?_|refine S2 fun hb h=>?_|exact S3
  ·have hf:=h
   refine ah (Mc x hsz) ?_
   first|refine W2 ?_|exact Z2
   refine aB ?_
   unfold jI
   rw[hf,Bool.true_and]
   exact decide_eq_decide.2 (by omega)
  ·refine aB ?_
   unfold jI
   rw[h,Bool.false_and]
 ·have h1:=dO (l:=900) (a:=kP x) (by omega)
  refine aB ?_
  unfold jI
  rw[decide_eq_false (by omega),Bool.and_false]
end Go.Proofs.YtlmhknhlmicmeaaGreatDoor
namespace Go.Ab
def lx(l:List ak)(n:Nat):List (List D):=fu (l.map ak.enc) n
def dL(x:ak):Nat:=jq x.enc
def gT(l:List ak):Nat:=dG (l.map ak.enc)
theorem iM(x:ak)(n:Nat):dR x.enc n=[.s x.dI,.ol n (lx x.bF (n+1))]:=by
 rw[ak.aC];simp only[dR,eU,jy,Nat.add_zero,lx]
theorem sS(s:List UInt8)(n:Nat):dR (cu s).enc n=[.s s,.ol n []]:=by rw[iM];rfl
theorem aaW(x:ak):dL x=gT x.bF+1:=by
 unfold dL gT
 rw[ak.aC];simp only[jq,jy];omega
theorem jl(s:List UInt8):dL (cu s)=1:=by rw[aaW];rfl
theorem lq(n:Nat):lx [] n=[]:=rfl
theorem iN(x:ak)(l:List ak)(n:Nat):lx (x::l) n=dR x.enc n::lx l (n+dL x):=rfl
theorem jQ(a b:List ak)(n:Nat):lx (a++b) n=lx a n++lx b (n+gT a):=by unfold lx gT;rw[List.map_append,Dr]
theorem Wy:gT []=0:=rfl
theorem TV(x:ak)(l:List ak):gT (x::l)=dL x+gT l:=rfl
theorem fK(l:List ak)(n:Nat):(lx l n).length=l.length:=by unfold lx;rw[gB,List.length_map]
theorem jB{l:List ak}{n:Nat}:∀r∈lx l n,r.length=2:=Ip fun r hr=>by
 obtain⟨z,_,rfl⟩:=List.mem_map.1 hr
 exact z.cK
theorem J4{l:List ak}{i:Nat}(hi:i<l.length)(n:Nat):lx (l.take i) n++[dR l[i].enc (n+gT (l.take i))]=lx (l.take (i+1)) n:=by
 rw[List.take_succ_eq_append_getElem hi,jQ];rfl
theorem wF{l:List ak}{i:Nat}(hi:i<l.length)(n:Nat):lx (l.take i) n++[[.s l[i].dI,.ol (n+gT (l.take i)) (lx l[i].bF (n+gT (l.take i)+1))]]=lx (l.take (i+1)) n:=by
 rw[←J4 hi,iM]
theorem wG{base l:List ak}{i:Nat}(hi:i<l.length)(q:Nat):lx (base++l.take i) q++[[.s l[i].dI,.ol (q+gT (base++l.take i)) (lx l[i].bF (q+gT (base++l.take i)+1))]]=lx (base++l.take (i+1)) q:=by
 rw[List.take_succ_eq_append_getElem hi,←List.append_assoc,jQ (base++l.take i),iN,lq,iM]
theorem jE{l:List ak}:∀r∈l.map ak.enc,r.length=2:=fun r hr=>by
 obtain⟨z,_,rfl⟩:=List.mem_map.1 hr
 exact z.cK
theorem zZ{cs cs':List C}(hl:cs'.length=cs.length)(h:∀(j:Nat) (x y:C),cs[j]? =some x→cs'[j]? =some y→∀w σ S β v,iH w σ S β x v→iH w σ S β y v):Less (.agg cs) (.agg cs'):=by
 rintro w σ S β v ⟨a,ha,hc⟩
 refine⟨a,ha,hl.trans hc.1,fun j y hy=> ?_⟩
 have hj:j<cs.length:=by rw[←hl];exact(List.getElem?_eq_some_iff.1 hy).1
 obtain⟨v,h1,h2,h3⟩:=hc.2 j _ (List.getElem?_eq_getElem hj)
 exact⟨v,h1,h j _ y (List.getElem?_eq_getElem hj) hy w σ S β v h2,h3⟩
theorem aci{w:World}{σ:Nat→Nat}{S:Store}{β:Hs}{v:Value}(n:Nat)(h:iH w σ S β (.bD []) v):iH w σ S β (.d (.ol n [])) v:=by
 obtain⟨hd,ad,m,hval⟩:=h
 have hm:m=0:=by rw[hval] at hd;cases hd<;>rfl
 subst hm
 rw[hval]
 exact .xJ _ _ _
theorem Er(s:List UInt8)(n:Nat):Less (.agg [.d (.s s),.bD []]) (.agg [.d (.s s),.d (.ol n [])]):=zZ rfl fun j x y hx hy w σ S β v hv=>by
 match j,hx,hy with
 |0,hx,hy=>cases hx;cases hy;exact hv
 |1,hx,hy=>cases hx;cases hy;exact aci _ hv
 |j+2,hx,hy=>simp at hx
theorem aaX(s:List UInt8)(n:Nat)(es:List (List D)):Less (.agg [.d (.s s),.kT n es]) (.agg [.d (.s s),.d (.ol n es)]):=zZ rfl fun j x y hx hy w σ S β v hv=>by
 match j,hx,hy with
 |0,hx,hy=>cases hx;cases hy;exact hv
 |1,hx,hy=>cases hx;cases hy;exact hv.1
 |j+2,hx,hy=>simp at hx
end Go.Ab
namespace Go.Proofs.YtlmhknhlmicmeaaGreatDoor
open Go Go.Ab
theorem QD(s:List UInt8):aG Tryz.prog 67 [.c (.d (.s s))] (.agg [.d (.s s),.bD []]):=fun S=>by
 refine aA (rs:=[.cell 2 32]) Tryz.checked.mixed Tryz.func67 Tryz.ntmps67 rfl rfl rfl rfl rfl ?_
 first|refine W1 ?_|exact Z1
theorem dx(s:List UInt8)(n:Nat):aG Tryz.prog 67 [.c (.d (.s s))] (.agg [.d (.s s),.d (.ol n [])]):=aG.less (QD s) (Er s n)
theorem jK(d:D):aG Tryz.prog 75 [.c (.d d)] (.agg [.d (.s []),.d d]):=fun S=>by
 refine aA (rs:=[.cell 2 32]) Tryz.checked.mixed Tryz.func75 Tryz.ntmps75 rfl rfl rfl rfl rfl ?_
 first|refine W1 ?_|exact Z1
theorem QE(n:Nat)(es:List (List D)):aG Tryz.prog 75 [.c (.kT n es)] (.agg [.d (.s []),.kT n es]):=fun S=>by
 refine aA (rs:=[.cell 2 32]) Tryz.checked.mixed Tryz.func75 Tryz.ntmps75 rfl rfl rfl rfl rfl ?_
 first|refine W1 ?_|exact Z1
theorem l8(n:Nat)(es:List (List D)):aG Tryz.prog 75 [.c (.kT n es)] (.agg [.d (.s []),.d (.ol n es)]):=aG.less (QE n es) (aaX [] n es)
theorem jr(l j:Nat)(es:List (List D))(S:Store):dh Tryz.prog 75 [.c (.bU (l,j) es)] S (fun r S'=>r=.agg [.d (.s []),.bU (l,j) es]∧S'=S):=by
 refine aA (rs:=[.cell 2 32]) Tryz.checked.mixed Tryz.func75 Tryz.ntmps75 rfl rfl rfl rfl rfl ?_
 first|refine W1 ?_|exact Z1
theorem xO(xs:List (List UInt8))(hx:xs.length≤1073741824)(n q:Nat):aG Tryz.prog 173 [.c (.d (.sl (xs.map encS)))] (.c (.d (.ol n (lx (bf xs) q)))):=fun S=>by
 refine jk (n) (rs:=[.tmp 2]) Tryz.checked.mixed Tryz.func173 Tryz.ntmps173 rfl rfl rfl rfl rfl ?_
 first|refine W1 ?_|exact Z1
 refine W3 ?_
 refine mh n 3 2 [] (.inl rfl) (by simp) ?_
 refine aV (ι:=Nat) Tryz.checked.mixed rfl [3,7,8,9] (fun i=>[.c (.bU (0,1) (lx ((bf xs).take i) q)),.c (.d (.sl (xs.map encS))),.c (.d (.i .i64 xs.length)),.c (.d (.i .i64 i))]) (fun i=>[.seed n,.fB n 2 (lx ((bf xs).take i) q)]::S)
  (fun i=>i≤xs.length) (fun i=>xs.length-i) 0 rfl rfl (Nat.zero_le _) ?_
 intro i hi
 first|refine W1 ?_|exact Z1
 with_reducible refine aS (fun hb=> ?_) (fun hb=> ?_)<;>have h:=hb<;>(try simp only[wf_preprocess] at h)<;>simp -implicitDefEqProofs (disch:=omega) only[go_sem,hb]<;>(repeat(with_reducible refine And.intro ?_ ?_;focus first|omega|rfl|assumption|exact⟨_,rfl,rfl⟩|(simp;omega)|(simp;done)))
 ·have hi':i<xs.length:=by omega
  have hw:i<(bf xs).length:=by rw[iR];exact hi'
  have hg:(bf xs)[i]=cu xs[i]:=by simp[bf]
  have hl:(lx ((bf xs).take i) q).length≤i:=by rw[fK];exact List.length_take_le _ _
  refine W3 ?_
  refine ah (dx xs[i] (q+gT ((bf xs).take i))) ?_
  first|refine W1 ?_|exact Z1
  (repeat(with_reducible refine And.intro ?_ ?_;focus first|omega|rfl|assumption|exact⟨_,rfl,rfl⟩|(simp;omega)|(simp;done)))
  have hs:=J4 hw q
  rw[hg,sS] at hs
  rw[hs]
  exact bL (i+1) (by omega) rfl rfl (by omega)
 ·have hi':i=(bf xs).length:=by rw[iR];omega
  rw[hi',List.take_length]
theorem dZ(xs:List (List UInt8))(hx:xs.length≤1073741824)(n:Nat):aG Tryz.prog 68 [.c (.d (.sl (xs.map encS)))] (.agg [.d (.s []),.d (.ol n (lx (bf xs) (n+1)))]):=fun S=>by
 refine aA (rs:=[.cell 2 32]) Tryz.checked.mixed Tryz.func68 Tryz.ntmps68 rfl rfl rfl rfl rfl ?_
 first|refine W1 ?_|exact Z1
 refine ah (xO xs hx n (n+1)) ?_
 first|refine W1 ?_|exact Z1
 refine ah (jK _) ?_
 first|refine W1 ?_|exact Z1
theorem BP:∀N:Nat,(∀x:aj,SizeOf.sizeOf x<N→∀n:Nat,formed x=true→x.sz≤4194304→aG Tryz.prog 175 [x.v] (.agg [.d (.s (dA x).dI),.d (.ol n (lx (dA x).bF (n+1)))]))∧
 (∀xs:List aj,SizeOf.sizeOf xs<N→∀n q:Nat,jm xs=true→xs.length≤4194304→(∀t∈xs,t.sz≤4194304)→aG Tryz.prog 174 [.c (.d (.sl (xs.map aj.enc)))] (.c (.d (.ol n (lx (xs.map dA) q)))))
 |0=>⟨fun x h=>by omega,fun x h=>by omega⟩
 |N+1=>by
  obtain⟨ih,Ih⟩:=BP N
  refine⟨fun x hn n hf hsz=> ?_,fun xs hn n q hf hlen hsz=> ?_⟩
  ·have jf:=aj.fI x
   have hts:=zJ hsz
   have hx:=VY x
   rw[uN,Bool.and_eq_true] at hf
   have hfi:=ji hf.1
   have hall:∀t∈x.fArgs,t.sz≤4194304:=fun t ht=>by
    obtain⟨i,hi,e⟩:=List.getElem_of_mem ht
    rw[←e];exact(sO hi hsz).1
   intro S
   refine oz (n) 1 (rs:=[.cell 2 32]) Tryz.checked.mixed Tryz.func175 Tryz.ntmps175 rfl rfl rfl rfl rfl ?_
   first|refine W1 ?_|exact Z1
   first|refine S0 (fun hb h=>?_) (fun hb h=>?_)|refine S1 fun hb h=>?_|refine S2 fun hb h=>?_|exact S3
   ·rw[if_pos h] at hx
    rw[hx]
    refine W3 ?_
    refine ah (dx _ n) ?_
    first|refine W1 ?_|exact Z1
    rfl
   have k1:=h
   rw[if_neg h] at hx
   first|refine S0 (fun hb h=>?_) (fun hb h=>?_)|refine S1 fun hb h=>?_|refine S2 fun hb h=>?_|exact S3
   ·rw[if_pos h] at hx
    rw[hx]
    refine ah (dx _ (n+1)) ?_
    first|refine W1 ?_|exact Z1
    refine ah (dx _ (n+1+1)) ?_
    first|refine W1 ?_|exact Z1
    refine ah (l8 _ _) ?_
    first|refine W1 ?_|exact Z1
    rfl
   have k4:=h
   rw[if_neg h] at hx
   first|refine S0 (fun hb h=>?_) (fun hb h=>?_)|refine S1 fun hb h=>?_|refine S2 fun hb h=>?_|exact S3
   ·have hlen:x.fArgs.length=1:=by omega
    obtain⟨a,ha⟩:=List.length_eq_one_iff.1 hlen
    have ha0:x.fArgs[0]'(by omega)=a:=by simp[ha]
    rw[if_neg (by omega),if_pos h,ha] at hx
    have hfa:formed a=true:=ug.1 hf.2 a (by rw[ha];simp)
    have hsa:a.sz≤4194304:=hall a (by rw[ha];simp)
    have hla:SizeOf.sizeOf a<N:=by
     have:=List.sizeOf_lt_of_mem (show a∈x.fArgs by rw[ha];simp)
     omega
    rw[hx]
    refine ah (dx _ (n+1)) ?_
    first|refine W1 ?_|exact Z1
    refine ah (dx _ (n+1+1)) ?_
    simp -implicitDefEqProofs (disch:=omega) only[go_sem,ha,List.getD_cons_zero]
    (repeat(with_reducible refine And.intro ?_ ?_;focus first|omega|rfl|assumption|exact⟨_,rfl,rfl⟩|(simp;omega)|(simp;done)))
    refine ah (ih a hla (n+1+1+1) hfa hsa) ?_
    first|refine W1 ?_|exact Z1
    refine ah (l8 _ _) ?_
    first|refine W1 ?_|exact Z1
    simp only[dX,dF,List.cons_append,List.nil_append,List.map_cons,List.map_nil,iN,lq,sS,jl,iM,jG,jH,kX]
   have k3:=h
   first|refine S0 (fun hb h=>?_) (fun hb h=>?_)|refine S1 fun hb h=>?_|refine S2 fun hb h=>?_|exact S3
   ·rw[if_pos ⟨by omega,by omega⟩] at hx
    rw[hx]
    refine ah (dx _ n) ?_
    first|refine W1 ?_|exact Z1
    rfl
   rw[if_neg (by omega),if_neg k3] at hx
   rw[hx]
   refine ah (dx _ (n+1)) ?_
   first|refine W1 ?_|exact Z1
   refine ah (Ih x.fArgs (by omega) 0 (n+1+1) hf.2 hts.1 hall) ?_
   first|refine W1 ?_|exact Z1
   have hl:(lx (x.fArgs.map dA) (n+1+1)).length=x.fArgs.length:=by rw[fK,List.length_map]
   have hr:=jB (l:=x.fArgs.map dA) (n:=n+1+1)
   (repeat(with_reducible refine And.intro ?_ ?_;focus first|omega|rfl|assumption|exact⟨_,rfl,rfl⟩|(simp;omega)|(simp;done)))
   refine ah (jK _) ?_
   first|refine W1 ?_|exact Z1
   simp only[dX,dF,List.cons_append,List.nil_append,iN,lq,sS,jl]
  ·have aeJ:=fun(i:Nat) (hi:i<xs.length)=>wF (l:=xs.map dA) (i:=i) (by rw[List.length_map];exact hi) q
   intro S
   refine jk (n) (rs:=[.tmp 2]) Tryz.checked.mixed Tryz.func174 Tryz.ntmps174 rfl rfl rfl rfl rfl ?_
   first|refine W1 ?_|exact Z1
   refine W3 ?_
   refine mh n 3 2 [] (.inl rfl) (by simp) ?_
   refine aV (ι:=Nat) Tryz.checked.mixed rfl [3,7,8,9] (fun i=>[.c (.bU (0,1) (lx ((xs.map dA).take i) q)),.c (.d (.sl (xs.map aj.enc))),.c (.d (.i .i64 xs.length)),.c (.d (.i .i64 i))]) (fun i=>[.seed n,.fB n 2 (lx ((xs.map dA).take i) q)]::S)
    (fun i=>i≤xs.length) (fun i=>xs.length-i) 0 rfl rfl (Nat.zero_le _) ?_
   intro i hi
   first|refine W1 ?_|exact Z1
   with_reducible refine aS (fun hb=> ?_) (fun hb=> ?_)<;>have h:=hb<;>(try simp only[wf_preprocess] at h)<;>simp -implicitDefEqProofs (disch:=omega) only[go_sem,hb]<;>(repeat(with_reducible refine And.intro ?_ ?_;focus first|omega|rfl|assumption|exact⟨_,rfl,rfl⟩|(simp;omega)|(simp;done)))
   ·have hi':i<xs.length:=by omega
    have hs:=aeJ i hi'
    rw[List.getElem_map] at hs
    have hl:(lx ((xs.map dA).take i) q).length≤i:=by rw[fK];exact List.length_take_le _ _
    refine W3 ?_
    refine ah (ih xs[i] (by have:=List.sizeOf_lt_of_mem (List.getElem_mem hi');omega) (q+gT ((xs.map dA).take i)) (ug.1 hf _ (List.getElem_mem hi')) (hsz _ (List.getElem_mem hi'))) ?_
    first|refine W1 ?_|exact Z1
    (repeat(with_reducible refine And.intro ?_ ?_;focus first|omega|rfl|assumption|exact⟨_,rfl,rfl⟩|(simp;omega)|(simp;done)))
    rw[hs]
    exact dz 2 (by decide) (i+1) (by omega) rfl rfl rfl rfl (by omega)
   ·have hi':i=(xs.map dA).length:=by rw[List.length_map];omega
    rw[hi',List.take_length]
theorem jU(x:aj)(n:Nat)(hf:formed x=true)(hsz:x.sz≤4194304):aG Tryz.prog 175 [x.v] (.agg [.d (.s (dA x).dI),.d (.ol n (lx (dA x).bF (n+1)))]):=(BP _).1 x (Nat.lt_succ_self _) n hf hsz
theorem wW(xs:List aj)(n q:Nat)(hf:jm xs=true)(hlen:xs.length≤4194304)(hsz:∀t∈xs,t.sz≤4194304):aG Tryz.prog 174 [.c (.d (.sl (xs.map aj.enc)))] (.c (.d (.ol n (lx (xs.map dA) q)))):=(BP _).2 xs (Nat.lt_succ_self _) n q hf hlen hsz
end Go.Proofs.YtlmhknhlmicmeaaGreatDoor
namespace Go.Ab
theorem eT(s:List UInt8):(cu s).enc=[.s s,.sl []]:=by rw[ak.aC];rfl
theorem iK(l:List ak):(cO l).enc=[.s [],.sl (l.map ak.enc)]:=by rw[ak.aC];rfl
theorem iB{base l:List ak}{i:Nat}(hi:i<l.length):(base++l.take i).map ak.enc++[[.s l[i].dI,.sl (l[i].bF.map ak.enc)]]=(base++l.take (i+1)).map ak.enc:=by
 rw[List.take_succ_eq_append_getElem hi,←List.append_assoc,List.map_append (l₂:=[l[i]]),List.map_cons,List.map_nil,ak.aC]
theorem wH(s:List UInt8)(es:List (List D)):Less (.agg [.d (.s s),.bD es]) (.agg [.d (.s s),.d (.sl es)]):=zZ rfl fun j x y hx hy w σ S β v hv=>by
 match j,hx,hy with
 |0,hx,hy=>cases hx;cases hy;exact hv
 |1,hx,hy=>cases hx;cases hy;exact hv.1
 |j+2,hx,hy=>simp at hx
theorem Es(x:ak)(n:Nat):Less (.agg [.d (.s x.dI),.d (.ol n (lx x.bF (n+1)))]) x.v:=by
 have h:=OE (r:=x.enc) (n:=n)
 rw[iM,ak.qL] at h
 exact h
end Go.Ab
namespace Go.Proofs.YtlmhknhlmicmeaaGreatDoor
open Go Go.Ab
theorem OZ(s:List UInt8):aG Tryz.prog 54 [.c (.d (.s s))] (.agg [.d (.s s),.bD []]):=fun S=>by
 refine aA (rs:=[.cell 2 32]) Tryz.checked.mixed Tryz.func54 Tryz.ntmps54 rfl rfl rfl rfl rfl ?_
 first|refine W1 ?_|exact Z1
theorem bW(s:List UInt8):aG Tryz.prog 54 [.c (.d (.s s))] (.agg [.d (.s s),.d (.sl [])]):=aG.less (OZ s) (wH s [])
theorem lM(es:List (List D))(hes:∀e∈es,e.length=2)(hl:es.length≤1073741824):aG Tryz.prog 53 [.c (.d (.sl es))] (.agg [.d (.s []),.d (.sl es)]):=fun S=>by
 refine aA (rs:=[.cell 2 32]) Tryz.checked.mixed Tryz.func53 Tryz.ntmps53 rfl rfl rfl rfl rfl ?_
 first|refine W1 ?_|exact Z1
 exact⟨hes,⟨_,rfl,rfl⟩,(fun y hy=>by cases hy),hl⟩
theorem iZ(es:List (List D))(hes:∀e∈es,e.length=2)(hl:es.length≤1073741824)(bT:List Ab.Obj)(Ω:Store):dh Tryz.prog 53 [.c (.d (.sl es))] (bT::Ω)
 (fun r S'=>r=.agg [.d (.s []),.bU (0,bT.length+1) es]∧S'=(bT++[.box [.d (.s []),.bU (0,bT.length+1) es],.tok 2 es])::Ω):=by
 refine K5 (rs:=[.cell 2 32]) Tryz.checked.mixed Tryz.func53 Tryz.ntmps53 rfl rfl rfl rfl rfl ?_
 first|refine W1 ?_|exact Z1
 exact⟨hes,⟨_,rfl,rfl⟩,(fun y hy=>by cases hy),hl⟩
theorem Dz(xs:List (List UInt8))(hx:xs.length≤1073741824):aG Tryz.prog 156 [.c (.d (.sl (xs.map encS)))] (.c (.d (.sl ((bf xs).map ak.enc)))):=fun S=>by
 refine aA (rs:=[.tmp 2]) Tryz.checked.mixed Tryz.func156 Tryz.ntmps156 rfl rfl rfl rfl rfl ?_
 first|refine W1 ?_|exact Z1
 refine W3 ?_
 refine oL 3 2 [] rfl (by simp) ?_
 refine aV (ι:=Nat) Tryz.checked.mixed rfl [0,3,4] (fun i=>[.c (.d (.sl (xs.map encS))),.c (.bU (0,0) (((bf xs).take i).map ak.enc)),.c (.d (.i .i64 i))]) (fun i=>[.tok 2 (((bf xs).take i).map ak.enc)]::S)
  (fun i=>i≤xs.length) (fun i=>xs.length-i) 0 rfl rfl (Nat.zero_le _) ?_
 intro i hi
 have hl:(((bf xs).take i).map ak.enc).length≤i:=by rw[List.length_map];exact List.length_take_le _ _
 first|refine W1 ?_|exact Z1
 with_reducible refine aS (fun hb=> ?_) (fun hb=> ?_)<;>have h:=hb<;>(try simp only[wf_preprocess] at h)<;>simp -implicitDefEqProofs (disch:=omega) only[go_sem,hb]<;>(repeat(with_reducible refine And.intro ?_ ?_;focus first|omega|rfl|assumption|exact⟨_,rfl,rfl⟩|(simp;omega)|(simp;done)))
 ·have hi':i<xs.length:=by omega
  have hs:=iB (base:=[]) (l:=bf xs) (i:=i) (by rw[iR];exact hi')
  have hg:(bf xs)[i]'(by rw[iR];exact hi')=cu xs[i]:=by simp[bf]
  rw[hg] at hs
  simp only[List.nil_append,jG,jH,List.map_nil] at hs
  refine W3 ?_
  refine ah (bW xs[i]) ?_
  first|refine W1 ?_|exact Z1
  (repeat(with_reducible refine And.intro ?_ ?_;focus first|omega|rfl|assumption|exact⟨_,rfl,rfl⟩|(simp;omega)|(simp;done)))
  rw[hs]
  exact bL (i+1) (by omega) rfl rfl (by omega)
 ·have hi':i=(bf xs).length:=by rw[iR];omega
  rw[hi',List.take_length]
theorem dU(xs:List (List UInt8))(hx:xs.length≤1073741824):aG Tryz.prog 55 [.c (.d (.sl (xs.map encS)))] (.agg [.d (.s []),.d (.sl ((bf xs).map ak.enc))]):=fun S=>by
 refine aA (rs:=[.cell 2 32]) Tryz.checked.mixed Tryz.func55 Tryz.ntmps55 rfl rfl rfl rfl rfl ?_
 first|refine W1 ?_|exact Z1
 refine ah (Dz xs hx) ?_
 first|refine W1 ?_|exact Z1
theorem IJ:∀N:Nat,(∀x:aj,SizeOf.sizeOf x<N→x.sz≤4194304→aG Tryz.prog 159 [x.v] (.agg [.d (.s (dA x).dI),.d (.sl ((dA x).bF.map ak.enc))]))
 |0=>fun x h=>by omega
 |N+1=>by
  have ih:=IJ N
  intro x hn hsz
  have jf:=aj.fI x
  have hts:=zJ hsz
  have hx:=VY x
  have hall:∀t∈x.fArgs,t.sz≤4194304:=fun t ht=>by
   obtain⟨i,hi,e⟩:=List.getElem_of_mem ht
   rw[←e];exact(sO hi hsz).1
  intro S
  refine aA (rs:=[.cell 2 32]) Tryz.checked.mixed Tryz.func159 Tryz.ntmps159 rfl rfl rfl rfl rfl ?_
  simp -implicitDefEqProofs (disch:=omega) only[go_sem]
  with_reducible refine aS (fun hb=> ?_) (fun hb=> ?_)<;>have h:=hb<;>(try simp only[wf_preprocess] at h)<;>simp -implicitDefEqProofs (disch:=omega) only[go_sem,hb]<;>(repeat(with_reducible refine And.intro ?_ ?_;focus first|omega|rfl|assumption|exact⟨_,rfl,rfl⟩|(simp;omega)|(simp;done)))
  ·rw[if_pos h] at hx
   rw[hx]
   (repeat(with_reducible refine And.intro ?_ ?_;focus first|omega|rfl|assumption|exact⟨_,rfl,rfl⟩|(simp;omega)|(simp;done)))
   refine ah (bW _) ?_
   simp -implicitDefEqProofs (disch:=omega) only[go_sem]
   rfl
  rw[if_neg h] at hx
  with_reducible refine aS (fun hb=> ?_) (fun hb=> ?_)<;>have h:=hb<;>(try simp only[wf_preprocess] at h)<;>simp -implicitDefEqProofs (disch:=omega) only[go_sem,hb]<;>(repeat(with_reducible refine And.intro ?_ ?_;focus first|omega|rfl|assumption|exact⟨_,rfl,rfl⟩|(simp;omega)|(simp;done)))
  ·rw[if_pos h] at hx
   rw[hx]
   refine ah (bW _) ?_
   simp -implicitDefEqProofs (disch:=omega) only[go_sem]
   refine ah (bW _) ?_
   simp -implicitDefEqProofs (disch:=omega) only[go_sem]
   refine ah (lM _ (by simp) (by simp)) ?_
   simp -implicitDefEqProofs (disch:=omega) only[go_sem]
   simp only[dX,dF,List.map_cons,List.map_nil,eT,Tq]
  rw[if_neg h] at hx
  have ags:x.aX=2→x.fArgs.length=0→dA x=cu x.fName:=fun a b=>by rw[hx,if_pos ⟨a,b⟩]
  have Y3:¬(x.aX=2∧x.fArgs.length=0)→dA x=cO ((if x.aX=3 then [cu kX] else [])++[cu x.fName]++x.fArgs.map dA):=fun a=>by rw[hx,if_neg a]
  clear hx
  repeat' (first|(with_reducible refine aS (fun hb=> ?_) (fun hb=> ?_)<;>have h:=hb<;>(try simp only[wf_preprocess] at h)<;>simp -implicitDefEqProofs (disch:=omega) only[go_sem,hb]<;>(repeat(with_reducible refine And.intro ?_ ?_;focus first|omega|rfl|assumption|exact⟨_,rfl,rfl⟩|(simp;omega)|(simp;done)))))
  ·rw[ags (by omega) (by omega)]
   refine ah (bW _) ?_
   simp -implicitDefEqProofs (disch:=omega) only[go_sem]
   rfl
  ·exfalso;omega
  ·have hx:=Y3 (by omega)
   rw[if_neg h,List.nil_append] at hx
   refine ah (bW _) ?_
   simp -implicitDefEqProofs (disch:=omega) only[go_sem]
   (repeat(with_reducible refine And.intro ?_ ?_;focus first|omega|rfl|assumption|exact⟨_,rfl,rfl⟩|(simp;omega)|(simp;done)))
   refine aV (ι:=Nat) Tryz.checked.mixed rfl [1,2,3,4] (fun i=>[.c (.ptr (0,0) 0),.c (.ptr (0,1) 0),.c (.ptr (0,2) 0),.c (.d (.i .i64 i))])
    (fun i=>[.box [.d (.i .i64 x.aX),.d (.s x.fName),.d (.sl (x.fArgs.map aj.enc))],.box [.d (.s []),.bD []],.box [.d (.s []),.bU (0,3) (([cu x.fName]++(x.fArgs.map dA).take i).map ak.enc)],.tok 2 (([cu x.fName]++(x.fArgs.map dA).take i).map ak.enc)]::S)
    (fun i=>i≤x.fArgs.length) (fun i=>x.fArgs.length-i) 0 rfl ?_ (Nat.zero_le _) ?_
   ·simp only[List.take_zero,List.append_nil,List.map_cons,List.map_nil,List.cons_append,List.nil_append,eT]<;>(try rfl)
   intro i hi
   have hl:(([cu x.fName]++(x.fArgs.map dA).take i).map ak.enc).length≤i+2:=by
    rw[List.length_map,List.length_append]
    have:=List.length_take_le i (x.fArgs.map dA)
    simp only[List.length_cons,List.length_nil];omega
   have hs:=fun hi=>iB (base:=[cu x.fName]) (l:=x.fArgs.map dA) (i:=i) hi
   have hrw:=jE (l:=[cu x.fName]++(x.fArgs.map dA).take i)
   generalize hR:([cu x.fName]++(x.fArgs.map dA).take i).map ak.enc=R at hl hs hrw
   simp -implicitDefEqProofs (disch:=omega) only[go_sem]
   with_reducible refine aS (fun hb=> ?_) (fun hb=> ?_)<;>have h:=hb<;>(try simp only[wf_preprocess] at h)<;>simp -implicitDefEqProofs (disch:=omega) only[go_sem,hb]<;>(repeat(with_reducible refine And.intro ?_ ?_;focus first|omega|rfl|assumption|exact⟨_,rfl,rfl⟩|(simp;omega)|(simp;done)))
   ·have hi':i<x.fArgs.length:=by omega
    have hs':=hs (by rw[List.length_map];exact hi')
    rw[List.getElem_map] at hs'
    (repeat(with_reducible refine And.intro ?_ ?_;focus first|omega|rfl|assumption|exact⟨_,rfl,rfl⟩|(simp;omega)|(simp;done)))
    refine ah (ih x.fArgs[i] (by have:=List.sizeOf_lt_of_mem (List.getElem_mem hi');omega) (hall _ (List.getElem_mem hi'))) ?_
    simp -implicitDefEqProofs (disch:=omega) only[go_sem]
    (repeat(with_reducible refine And.intro ?_ ?_;focus first|omega|rfl|assumption|exact⟨_,rfl,rfl⟩|(simp;omega)|(simp;done)))
    rw[hs']
    exact bL (i+1) (by omega) rfl rfl (by omega)
   ·have hi':i=(x.fArgs.map dA).length:=by rw[List.length_map];omega
    rw[hx,←hR,hi',List.take_length]
    simp only[dX,dF,List.cons_append,List.nil_append]
  ·have hx:=Y3 (by omega)
   rw[if_pos h] at hx
   refine ah (bW _) ?_
   simp -implicitDefEqProofs (disch:=omega) only[go_sem]
   (repeat(with_reducible refine And.intro ?_ ?_;focus first|omega|rfl|assumption|exact⟨_,rfl,rfl⟩|(simp;omega)|(simp;done)))
   refine ah (bW _) ?_
   simp -implicitDefEqProofs (disch:=omega) only[go_sem]
   (repeat(with_reducible refine And.intro ?_ ?_;focus first|omega|rfl|assumption|exact⟨_,rfl,rfl⟩|(simp;omega)|(simp;done)))
   refine aV (ι:=Nat) Tryz.checked.mixed rfl [1,2,3,4] (fun i=>[.c (.ptr (0,0) 0),.c (.ptr (0,1) 0),.c (.ptr (0,2) 0),.c (.d (.i .i64 i))])
    (fun i=>[.box [.d (.i .i64 x.aX),.d (.s x.fName),.d (.sl (x.fArgs.map aj.enc))],.box [.d (.s []),.bD []],.box [.d (.s []),.bU (0,3) (([cu kX,cu x.fName]++(x.fArgs.map dA).take i).map ak.enc)],.tok 2 (([cu kX,cu x.fName]++(x.fArgs.map dA).take i).map ak.enc)]::S)
    (fun i=>i≤x.fArgs.length) (fun i=>x.fArgs.length-i) 0 rfl ?_ (Nat.zero_le _) ?_
   ·simp only[List.take_zero,List.append_nil,List.map_cons,List.map_nil,List.cons_append,List.nil_append,eT]<;>(try rfl)
   intro i hi
   have hl:(([cu kX,cu x.fName]++(x.fArgs.map dA).take i).map ak.enc).length≤i+2:=by
    rw[List.length_map,List.length_append]
    have:=List.length_take_le i (x.fArgs.map dA)
    simp only[List.length_cons,List.length_nil];omega
   have hs:=fun hi=>iB (base:=[cu kX,cu x.fName]) (l:=x.fArgs.map dA) (i:=i) hi
   have hrw:=jE (l:=[cu kX,cu x.fName]++(x.fArgs.map dA).take i)
   generalize hR:([cu kX,cu x.fName]++(x.fArgs.map dA).take i).map ak.enc=R at hl hs hrw
   simp -implicitDefEqProofs (disch:=omega) only[go_sem]
   with_reducible refine aS (fun hb=> ?_) (fun hb=> ?_)<;>have h:=hb<;>(try simp only[wf_preprocess] at h)<;>simp -implicitDefEqProofs (disch:=omega) only[go_sem,hb]<;>(repeat(with_reducible refine And.intro ?_ ?_;focus first|omega|rfl|assumption|exact⟨_,rfl,rfl⟩|(simp;omega)|(simp;done)))
   ·have hi':i<x.fArgs.length:=by omega
    have hs':=hs (by rw[List.length_map];exact hi')
    rw[List.getElem_map] at hs'
    (repeat(with_reducible refine And.intro ?_ ?_;focus first|omega|rfl|assumption|exact⟨_,rfl,rfl⟩|(simp;omega)|(simp;done)))
    refine ah (ih x.fArgs[i] (by have:=List.sizeOf_lt_of_mem (List.getElem_mem hi');omega) (hall _ (List.getElem_mem hi'))) ?_
    simp -implicitDefEqProofs (disch:=omega) only[go_sem]
    (repeat(with_reducible refine And.intro ?_ ?_;focus first|omega|rfl|assumption|exact⟨_,rfl,rfl⟩|(simp;omega)|(simp;done)))
    rw[hs']
    exact bL (i+1) (by omega) rfl rfl (by omega)
   ·have hi':i=(x.fArgs.map dA).length:=by rw[List.length_map];omega
    rw[hx,←hR,hi',List.take_length]
    simp only[dX,dF,List.cons_append,List.nil_append]
  ·have hx:=Y3 (by omega)
   rw[if_neg h,List.nil_append] at hx
   refine ah (bW _) ?_
   simp -implicitDefEqProofs (disch:=omega) only[go_sem]
   (repeat(with_reducible refine And.intro ?_ ?_;focus first|omega|rfl|assumption|exact⟨_,rfl,rfl⟩|(simp;omega)|(simp;done)))
   refine aV (ι:=Nat) Tryz.checked.mixed rfl [1,2,3,4] (fun i=>[.c (.ptr (0,0) 0),.c (.ptr (0,1) 0),.c (.ptr (0,2) 0),.c (.d (.i .i64 i))])
    (fun i=>[.box [.d (.i .i64 x.aX),.d (.s x.fName),.d (.sl (x.fArgs.map aj.enc))],.box [.d (.s []),.bD []],.box [.d (.s []),.bU (0,3) (([cu x.fName]++(x.fArgs.map dA).take i).map ak.enc)],.tok 2 (([cu x.fName]++(x.fArgs.map dA).take i).map ak.enc)]::S)
    (fun i=>i≤x.fArgs.length) (fun i=>x.fArgs.length-i) 0 rfl ?_ (Nat.zero_le _) ?_
   ·simp only[List.take_zero,List.append_nil,List.map_cons,List.map_nil,List.cons_append,List.nil_append,eT]<;>(try rfl)
   intro i hi
   have hl:(([cu x.fName]++(x.fArgs.map dA).take i).map ak.enc).length≤i+2:=by
    rw[List.length_map,List.length_append]
    have:=List.length_take_le i (x.fArgs.map dA)
    simp only[List.length_cons,List.length_nil];omega
   have hs:=fun hi=>iB (base:=[cu x.fName]) (l:=x.fArgs.map dA) (i:=i) hi
   have hrw:=jE (l:=[cu x.fName]++(x.fArgs.map dA).take i)
   generalize hR:([cu x.fName]++(x.fArgs.map dA).take i).map ak.enc=R at hl hs hrw
   simp -implicitDefEqProofs (disch:=omega) only[go_sem]
   with_reducible refine aS (fun hb=> ?_) (fun hb=> ?_)<;>have h:=hb<;>(try simp only[wf_preprocess] at h)<;>simp -implicitDefEqProofs (disch:=omega) only[go_sem,hb]<;>(repeat(with_reducible refine And.intro ?_ ?_;focus first|omega|rfl|assumption|exact⟨_,rfl,rfl⟩|(simp;omega)|(simp;done)))
   ·have hi':i<x.fArgs.length:=by omega
    have hs':=hs (by rw[List.length_map];exact hi')
    rw[List.getElem_map] at hs'
    (repeat(with_reducible refine And.intro ?_ ?_;focus first|omega|rfl|assumption|exact⟨_,rfl,rfl⟩|(simp;omega)|(simp;done)))
    refine ah (ih x.fArgs[i] (by have:=List.sizeOf_lt_of_mem (List.getElem_mem hi');omega) (hall _ (List.getElem_mem hi'))) ?_
    simp -implicitDefEqProofs (disch:=omega) only[go_sem]
    (repeat(with_reducible refine And.intro ?_ ?_;focus first|omega|rfl|assumption|exact⟨_,rfl,rfl⟩|(simp;omega)|(simp;done)))
    rw[hs']
    exact bL (i+1) (by omega) rfl rfl (by omega)
   ·have hi':i=(x.fArgs.map dA).length:=by rw[List.length_map];omega
    rw[hx,←hR,hi',List.take_length]
    simp only[dX,dF,List.cons_append,List.nil_append]
theorem kC(x:aj)(hsz:x.sz≤4194304):aG Tryz.prog 159 [x.v] (.agg [.d (.s (dA x).dI),.d (.sl ((dA x).bF.map ak.enc))]):=IJ _ x (Nat.lt_succ_self _) hsz
theorem yB(xs:List aj)(hlen:xs.length≤4194304)(hsz:∀t∈xs,t.sz≤4194304):aG Tryz.prog 158 [.c (.d (.sl (xs.map aj.enc)))] (.c (.d (.sl ((xs.map dA).map ak.enc)))):=fun S=>by
 refine aA (rs:=[.tmp 2]) Tryz.checked.mixed Tryz.func158 Tryz.ntmps158 rfl rfl rfl rfl rfl ?_
 first|refine W1 ?_|exact Z1
 refine W3 ?_
 refine oL 3 2 [] rfl (by simp) ?_
 refine aV (ι:=Nat) Tryz.checked.mixed rfl [0,3,4] (fun i=>[.c (.d (.sl (xs.map aj.enc))),.c (.bU (0,0) (((xs.map dA).take i).map ak.enc)),.c (.d (.i .i64 i))]) (fun i=>[.tok 2 (((xs.map dA).take i).map ak.enc)]::S)
  (fun i=>i≤xs.length) (fun i=>xs.length-i) 0 rfl rfl (Nat.zero_le _) ?_
 intro i hi
 have hl:(((xs.map dA).take i).map ak.enc).length≤i:=by rw[List.length_map];exact List.length_take_le _ _
 first|refine W1 ?_|exact Z1
 with_reducible refine aS (fun hb=> ?_) (fun hb=> ?_)<;>have h:=hb<;>(try simp only[wf_preprocess] at h)<;>simp -implicitDefEqProofs (disch:=omega) only[go_sem,hb]<;>(repeat(with_reducible refine And.intro ?_ ?_;focus first|omega|rfl|assumption|exact⟨_,rfl,rfl⟩|(simp;omega)|(simp;done)))
 ·have hi':i<xs.length:=by omega
  have hs:=iB (base:=[]) (l:=xs.map dA) (i:=i) (by rw[List.length_map];exact hi')
  rw[List.getElem_map] at hs
  simp only[List.nil_append] at hs
  refine W3 ?_
  refine ah (kC xs[i] (hsz _ (List.getElem_mem hi'))) ?_
  first|refine W1 ?_|exact Z1
  (repeat(with_reducible refine And.intro ?_ ?_;focus first|omega|rfl|assumption|exact⟨_,rfl,rfl⟩|(simp;omega)|(simp;done)))
  rw[hs]
  exact bL (i+1) (by omega) rfl rfl (by omega)
 ·have hi':i=(xs.map dA).length:=by rw[List.length_map];omega
  rw[hi',List.take_length]
theorem oF(b:Bool)(x:ak)(hsz:x.sz≤67108864):aG Tryz.prog 60 [.c (.d (.b b)),x.v] (sH b x).v:=by
 have zero:aG Tryz.prog 60 [.c (.d (.b b)),x.v] (.agg [.d (.s []),.bD []])→aG Tryz.prog 60 [.c (.d (.b b)),x.v] Hg.v:=fun h=>aG.less h (wH [] [])
 cases b with
 |false=>
  refine zero fun S=> ?_
  refine aA (rs:=[.cell 4 32]) Tryz.checked.mixed Tryz.func60 Tryz.ntmps60 rfl rfl rfl rfl rfl ?_
  first|refine W1 ?_|exact Z1
 |true=>
  show aG Tryz.prog 60 [.c (.d (.b true)),x.v] (rV x).v
  unfold rV
  cases hv:jI x with
  |false=>
   refine zero fun S=> ?_
   refine aA (rs:=[.cell 4 32]) Tryz.checked.mixed Tryz.func60 Tryz.ntmps60 rfl rfl rfl rfl rfl ?_
   first|refine W1 ?_|exact Z1
   refine ah (Cq x hsz) ?_
   simp -implicitDefEqProofs (disch:=omega) only[go_sem,hv]
  |true=>
   intro S
   refine aA (rs:=[.cell 4 32]) Tryz.checked.mixed Tryz.func60 Tryz.ntmps60 rfl rfl rfl rfl rfl ?_
   first|refine W1 ?_|exact Z1
   refine ah (Cq x hsz) ?_
   simp -implicitDefEqProofs (disch:=omega) only[go_sem,hv]
theorem TW(x:ak)(n:Nat)(hsz:x.sz≤67108864):aG Tryz.prog 74 [.agg [.d (.s x.dI),.d (.ol n (lx x.bF (n+1)))]] (.agg [.d (.s (rV x).dI),.d (.ol n (lx (rV x).bF (n+1)))]):=by
 unfold rV
 cases hv:jI x with
 |false=>
  refine aG.less (fun S=> ?_) (Er [] n)
  refine aA (rs:=[.cell 2 32]) Tryz.checked.mixed Tryz.func74 Tryz.ntmps74 rfl rfl rfl rfl rfl ?_
  first|refine W1 ?_|exact Z1
  refine q9 (uo x hsz) (.cons (Es x n) .nil) ?_
  simp -implicitDefEqProofs (disch:=omega) only[go_sem,hv]
 |true=>
  intro S
  refine aA (rs:=[.cell 2 32]) Tryz.checked.mixed Tryz.func74 Tryz.ntmps74 rfl rfl rfl rfl rfl ?_
  first|refine W1 ?_|exact Z1
  refine q9 (uo x hsz) (.cons (Es x n) .nil) ?_
  simp -implicitDefEqProofs (disch:=omega) only[go_sem,hv]
end Go.Proofs.YtlmhknhlmicmeaaGreatDoor
namespace Go.Proofs
open Go.Shelf
def Tryz.laysM171_ren:Go.Shelf.Ren:=⟨fun|171=>287|243=>331|246=>350|283=>369|284=>370|285=>371|286=>372|129=>382|317=>381|318=>383|319=>384|320=>385|337=>391|338=>392|n=>n,fun|3=>3|9=>9|2=>2|4=>4|171=>358|0=>0|53=>359|37=>227|5=>5|173=>362|212=>376|51=>377|20=>20|213=>378|46=>369|232=>388|233=>389|n=>n,fun|17=>2|18=>4|19=>5|n=>n⟩
theorem Tryz.laysM171:Go.Proofs.LaysM.n171 Tryz.prog Tryz.laysM171_ren:={
 mixed:=by kernel_rfl
 f129:=Tryz.func382.trans (congrArg some (by kernel_rfl))
 f171:=Tryz.func287.trans (congrArg some (by kernel_rfl))
 f243:=Tryz.func331.trans (congrArg some (by kernel_rfl))
 f246:=Tryz.func350.trans (congrArg some (by kernel_rfl))
 f283:=Tryz.func369.trans (congrArg some (by kernel_rfl))
 f284:=Tryz.func370.trans (congrArg some (by kernel_rfl))
 f285:=Tryz.func371.trans (congrArg some (by kernel_rfl))
 f286:=Tryz.func372.trans (congrArg some (by kernel_rfl))
 f317:=Tryz.func381.trans (congrArg some (by kernel_rfl))
 f318:=Tryz.func383.trans (congrArg some (by kernel_rfl))
 f319:=Tryz.func384.trans (congrArg some (by kernel_rfl))
 f320:=Tryz.func385.trans (congrArg some (by kernel_rfl))
 f337:=Tryz.func391.trans (congrArg some (by kernel_rfl))
 f338:=Tryz.func392.trans (congrArg some (by kernel_rfl))
 t0:=Tryz.underlying0
 a0:=Tryz.isAgg0
 z0:=Tryz.sizeOf0
 v0:=Tryz.zeroValue0
 t2:=Tryz.underlying2
 a2:=Tryz.isAgg2
 z2:=Tryz.sizeOf2
 v2:=Tryz.zeroValue2
 t3:=Tryz.underlying3
 a3:=Tryz.isAgg3
 z3:=Tryz.sizeOf3
 v3:=Tryz.zeroValue3
 t4:=Tryz.underlying4
 a4:=Tryz.isAgg4
 z4:=Tryz.sizeOf4
 v4:=Tryz.zeroValue4
 t5:=Tryz.underlying5
 a5:=Tryz.isAgg5
 z5:=Tryz.sizeOf5
 v5:=Tryz.zeroValue5
 t9:=Tryz.underlying9
 a9:=Tryz.isAgg9
 z9:=Tryz.sizeOf9
 v9:=Tryz.zeroValue9
 t20:=Tryz.underlying20
 a20:=Tryz.isAgg20
 z20:=Tryz.sizeOf20
 v20:=Tryz.zeroValue20
 t37:=Tryz.underlying227
 a37:=Tryz.isAgg227
 z37:=Tryz.sizeOf227
 v37:=Tryz.zeroValue227
 t46:=Tryz.underlying369
 a46:=Tryz.isAgg369
 z46:=Tryz.sizeOf369
 v46:=Tryz.zeroValue369
 t51:=Tryz.underlying377
 a51:=Tryz.isAgg377
 z51:=Tryz.sizeOf377
 v51:=Tryz.zeroValue377
 t53:=Tryz.underlying359
 a53:=Tryz.isAgg359
 z53:=Tryz.sizeOf359
 v53:=Tryz.zeroValue359
 t171:=Tryz.underlying358
 a171:=Tryz.isAgg358
 z171:=Tryz.sizeOf358
 v171:=Tryz.zeroValue358
 t173:=Tryz.underlying362
 a173:=Tryz.isAgg362
 z173:=Tryz.sizeOf362
 v173:=Tryz.zeroValue362
 t212:=Tryz.underlying376
 a212:=Tryz.isAgg376
 z212:=Tryz.sizeOf376
 v212:=Tryz.zeroValue376
 t213:=Tryz.underlying378
 a213:=Tryz.isAgg378
 z213:=Tryz.sizeOf378
 t232:=Tryz.underlying388
 a232:=Tryz.isAgg388
 z232:=Tryz.sizeOf388
 v232:=Tryz.zeroValue388
 t233:=Tryz.underlying389
 a233:=Tryz.isAgg389
 z233:=Tryz.sizeOf389
 v233:=Tryz.zeroValue389
 g17:=by kernel_rfl
 g18:=by kernel_rfl
 g19:=by kernel_rfl
 i0:=by kernel_rfl
 i2:=by kernel_rfl
 i3:=by kernel_rfl
 i4:=by kernel_rfl
 i5:=by kernel_rfl
 i9:=by kernel_rfl
 i20:=by kernel_rfl
 i37:=by kernel_rfl
 i46:=by kernel_rfl
 i51:=by kernel_rfl
 i53:=by kernel_rfl
 i171:=by kernel_rfl
 i173:=by kernel_rfl
 i212:=by kernel_rfl
 i232:=by kernel_rfl
 i233:=by kernel_rfl
 m17:=by kernel_rfl
 m18:=by kernel_rfl
 m19:=by kernel_rfl}
open Go.RowKit Go.Sort Go.Lib in
theorem Tryz.strconv_Itoa(n:Int)(h0: -9223372036854775808≤n)(h1:n≤9223372036854775807)(w:World)(htab:Lib.TabIs Tryz.prog w "internal/strconv.uint64pow10" .u64 Lib.pow10Tab):
 Calls Tryz.prog 287 #[.int .i64 n] w fun e w'=>e=.returned (.string ⟨(Lib.itoa n).toArray⟩)∧∃k os,w'=grow (w.drewN k) os:=Any.strconv_Itoa Tryz.laysM171 n h0 h1 w htab
end Go.Proofs
namespace Go.Ab
theorem TY{w:World}{σ:Nat→Nat}{k:Nat}{os:Array Go.Obj}(hl:∀b,b<w.heap.size∨σ b=0):Grow w σ (Go.Sort.grow (w.drewN k) os) σ:=by
 have hh:(Go.Sort.grow (w.drewN k) os).heap=w.heap++os:=rfl
 refine⟨by rw[hh];simp,rfl,rfl,fun b hb=>⟨by rw[hh,Array.getElem?_append_left hb],rfl⟩,fun b=> ?_⟩
 rcases hl b with h|h
 ·left;rw[hh];simp;omega
 ·exact .inr h
theorem aaY{x:V}{vs:List Value}{w:World}{σ:Nat→Nat}{S:Store}{β:Hs}(h:oq w σ S β [x] vs):∃v,vs=[v]∧dQ w σ S β x v:=by
 obtain⟨hl,h⟩:=h
 obtain⟨v,e,hr⟩:=h 0 x rfl
 match vs,hl,e with
 |[y],_,e=>simp at e;subst e;exact⟨_,rfl,hr⟩
end Go.Ab
namespace Go.Proofs.YtlmhknhlmicmeaaGreatDoor
open Go Go.Ab
theorem Wz{w:World}{σ:Nat→Nat}(h:AY w σ):Lib.TabIs Tryz.prog w "internal/strconv.uint64pow10" .u64 Lib.pow10Tab:=by
 obtain⟨c,t,fz,q1,q2,q3⟩:=h _ _ (show _∈Q9 from List.mem_cons_self ..)
 have hn:Tryz.prog.globalNamed "internal/strconv.uint64pow10" =some 2:=by kernel_rfl
 unfold Lib.TabIs World.var?
 rw[hn]
 simp only[Option.bind_some,q1,Option.some.injEq]
 apply Array.ext'
 rw[q2]
 simp[Lib.pow10Tab]
theorem aaZ(n:Int)(h0: -9223372036854775808≤n)(h1:n≤9223372036854775807):aG Tryz.prog 287 [.c (.d (.i .i64 n))] (.c (.d (.s (Lib.itoa n)))):=fun S=>by
 refine⟨⟨_,Tryz.func287,by kernel_rfl,by kernel_rfl⟩,fun w σ β vs hS hv=> ?_⟩
 obtain⟨v,rfl,hr,_⟩:=aaY hv
 have hv0:v=.int .i64 n:=by cases hr;rfl
 subst hv0
 refine(Tryz.strconv_Itoa n h0 h1 w (Wz hS.tO)).mono fun e w' ⟨he,k,os,hw⟩=> ?_
 subst hw
 have hg:Grow w σ (Go.Sort.grow (w.drewN k) os) σ:=TY hS.live
 exact⟨_,.c (.d (.s (Lib.itoa n))),S,σ,β,he,hS.grow hg,Keep.refl _ _,Step.nN hg,⟨.s _,rfl⟩,rfl,rfl⟩
theorem F3(n:Int)(h0: -9223372036854775808≤n)(h1:n≤9223372036854775807):aG Tryz.prog 212 [.c (.d (.i .i64 n))] (.c (.d (.s (Lib.itoa n)))):=fun S=>by
 refine aA (rs:=[.tmp 2]) Tryz.checked.mixed Tryz.func212 Tryz.ntmps212 rfl rfl rfl rfl rfl ?_
 first|refine W1 ?_|exact Z1
 refine ah (aaZ n h0 h1) ?_
 first|refine W2 ?_|exact Z2
end Go.Proofs.YtlmhknhlmicmeaaGreatDoor
namespace Go.Ab
def DC(m:Nat):List UInt8:=if m=0 then [] else Lib.decDigits m
theorem WA{m:Nat}(h:m≠0):DC (m/10)++[UInt8.ofNat (48+m % 10)]=DC m:=by
 unfold DC
 rw[if_neg h]
 conv=>rhs;rw[Lib.decDigits]
 by_cases h10:m<10
 ·rw[dif_pos h10,if_pos (by omega),List.nil_append,Nat.mod_eq_of_lt h10]
 ·rw[dif_neg h10,if_neg (by omega)]
theorem Y4(n:Int)(h0: -9223372036854775808≤n)(h1:n≤9223372036854775807):∃sg:Nat→Int,sg 0=0∧sg n.natAbs=n∧(∀m,m≠0→sg m≠0)∧(∀m,(sg m).tmod 10= -((m % 10:Nat):Int)∨(sg m).tmod 10=((m % 10:Nat):Int))∧
 (∀m,(sg m).tdiv 10=sg (m/10))∧∀m,m≤n.natAbs→ -9223372036854775808≤sg m∧sg m≤9223372036854775807:=by
 by_cases h:n<0
 ·refine⟨fun m=> -(m:Int),rfl,by simp only;omega,fun m hm=>by simp only;omega,fun m=>.inl ?_,fun m=> ?_,fun m hm=>by simp only;omega⟩
  ·simp only;rw[Int.neg_tmod];congr 1
  ·simp only;rw[Int.neg_tdiv];congr 1
 ·refine⟨fun m=>(m:Int),rfl,by simp only;omega,fun m hm=>by simp only;omega,fun m=>.inr rfl,fun m=>rfl,fun m hm=>by simp only;omega⟩
theorem WB:Lib.itoa 0=[48]:=by
 unfold Lib.itoa
 rw[if_neg (by decide),Lib.decDigits,dif_pos (by decide)];rfl
theorem T9(a:Nat)(h:a≤9223372036854775808):(Lib.decDigits a).length≤19:=El 18 a (by omega)
end Go.Ab
namespace Go.Proofs.YtlmhknhlmicmeaaGreatDoor
open Go Go.Ab
theorem F4(n:Int)(h0: -9223372036854775808≤n)(h1:n≤9223372036854775807):aG Tryz.prog 205 [.c (.d (.i .i64 n))] (.c (.d (.s (Lib.itoa n)))):=fun S=>by
 obtain⟨sg,g0,gn,gne,agt,agu,acj⟩:=Y4 n h0 h1
 refine aA (rs:=[.tmp 2]) Tryz.checked.mixed Tryz.func205 Tryz.ntmps205 rfl rfl rfl rfl rfl ?_
 first|refine W1 ?_|exact Z1
 first|refine S0 (fun hb h=>?_) (fun hb h=>?_)|refine S1 fun hb h=>?_|refine S2 fun hb h=>?_|exact S3
 ·rw[h,WB]
 have hn0:=h
 have hd0:DC n.natAbs=Lib.decDigits n.natAbs:=by unfold DC;rw[if_neg (by omega)]
 have hln:=T9 n.natAbs (by omega)
 refine aV (ι:=Nat×List UInt8) Tryz.checked.mixed rfl [0,3,4] (fun y=>[.c (.d (.i .i64 (sg y.1))),.c (.d (.b (decide (n<0)))),.c (.d (.s y.2))]) (fun _=>[]::S)
  (fun y=>y.1≤n.natAbs∧DC y.1++y.2=DC n.natAbs∧y.2.length≤19) (fun y=>y.1) (n.natAbs,[]) (by rw[gn];rfl) rfl ⟨Nat.le_refl _,List.append_nil _,by simp⟩ ?_
 rintro⟨m,out⟩ ⟨p1,p2,p3⟩
 simp only at p1 p2 p3
 have hr:=acj m p1
 have hm:=agt m
 have hq:=agu m
 generalize hx:sg m=x at *
 generalize hy:x.tmod 10=y at *
 have hlo:out.length≤19:=p3
 first|refine W1 ?_|exact Z1
 first|refine S0 (fun hb h=>?_) (fun hb h=>?_)|refine S1 fun hb h=>?_|refine S2 fun hb h=>?_|exact S3
 ·have hm0:m≠0:=fun e=>by rw[e,g0] at hx;omega
  have hst:=WA hm0
  have hr2:=acj (m/10) (by omega)
  have ahc:(DC (m/10)).length+1+out.length≤19:=by
   have:=congrArg List.length p2
   rw[←hst,hd0] at this
   simp only[List.length_append,List.length_cons,List.length_nil] at this
   omega
  simp -implicitDefEqProofs (disch:=omega) only[go_sem,hy]
  first|refine S0 (fun hb h=>?_) (fun hb h=>?_)|refine S1 fun hb h=>?_|refine S2 fun hb h=>?_|exact S3
  ·have e1:(0:Int)-y=((m % 10:Nat):Int):=by omega
   have hc:UInt8.ofNat (IntKind.u8.wrap (48+(0-y))).toNat=UInt8.ofNat (48+m % 10):=by
    rw[wrap_u8 _ (by omega),e1]
    congr 1
   simp -implicitDefEqProofs (disch:=omega) only[go_sem,hy,hq]
   refine W3 ?_
   refine bL (m/10,UInt8.ofNat (48+m % 10)::out) (by simp only;omega) (by rw[←hc];rfl) rfl ⟨by simp only;omega,?_,by simp only[List.length_cons];omega⟩
   simp only
   rw[←p2,←hst,List.append_assoc];rfl
  ·have e1:y=((m % 10:Nat):Int):=by omega
   have hc:UInt8.ofNat (IntKind.u8.wrap (48+y)).toNat=UInt8.ofNat (48+m % 10):=by
    rw[wrap_u8 _ (by omega),e1]
    congr 1
   simp -implicitDefEqProofs (disch:=omega) only[go_sem,hy,hq]
   refine W3 ?_
   refine bL (m/10,UInt8.ofNat (48+m % 10)::out) (by simp only;omega) (by rw[←hc];rfl) rfl ⟨by simp only;omega,?_,by simp only[List.length_cons];omega⟩
   simp only
   rw[←p2,←hst,List.append_assoc];rfl
 ·have hm0:m=0:=by
   rcases Nat.eq_zero_or_pos m with e|e
   ·exact e
   ·exact absurd (by rw[hx];omega) (gne m (by omega))
  subst hm0
  have hout:out=Lib.decDigits n.natAbs:=by rw[←hd0,←p2];rfl
  first|refine S0 (fun hb h=>?_) (fun hb h=>?_)|refine S1 fun hb h=>?_|refine S2 fun hb h=>?_|exact S3
  ·refine W3 ?_
   rw[hout]
   unfold Lib.itoa
   rw[if_pos h]
  ·rw[hout]
   unfold Lib.itoa
   rw[if_neg h,show n.toNat=n.natAbs by omega]
end Go.Proofs.YtlmhknhlmicmeaaGreatDoor
namespace Go.Ab
theorem DF{P:Program}{w:World}{t u ty e:TypeId}{base:Option Addr}{n:Nat}{i:TypeInfo}{z:Value}(ht:P.underlying t=some (.slice e))(hu:P.underlying u=some (.int .i64))(hi:P.info? e=some i)
 (hz:i.zero=some z) (h1:1≤n) (hn:n≤1073741824) (hb:i.bytes≤4096) (hs:i.size=z.cells.size):
 ∃(cap:Nat) (row:Array Value),n≤cap∧row.size=cap*z.cells.size∧(Builtin.append_ #[t,u] ty #[.slice base 0 0,.int .i64 n]).run P w=
  .ok (.slice (some ⟨w.heap.size,0,none⟩) n cap) {w.drew with heap:=w.heap.push (.cells row e)}:=by
 have hn1:=Gx n 0 (by omega)
 have h48:¬(281474976710656<Builtin.nextslicecap n 0*i.bytes):=by
  have:Builtin.nextslicecap n 0*i.bytes≤(2*n+512)*4096:=Nat.mul_le_mul hn1 hb
  omega
 have h49:¬(281474976710656<(n:Int)*(i.bytes:Int)):=by
  have h2:n*i.bytes≤1073741824*4096:=Nat.mul_le_mul hn hb
  have:(n:Int)*(i.bytes:Int)=((n*i.bytes:Nat):Int):=by simp
  rw[this];omega
 have h63':¬(9223372036854775807<(n:Int)):=by omega
 have hroom':¬(n≤0):=by omega
 have hneg:¬((n:Int)<0):=by omega
 have hn0:¬n=0:=by omega
 have hw:IntKind.i64.wrap (n:Int)=n:=Ro _ (by omega)
 have hmax:IntKind.i64.max=9223372036854775807:=by decide
 have ha:∀w:World,(asInt (.int .i64 (n:Int))).run P w=.ok (n:Int) w:=fun w=>by simp[asInt,asIntOf]
 let cap:=(Question.appendCap n 0 e).cut (w.tape w.drawn (Question.appendCap n 0 e))
 have hcap:n≤cap:=by simp[cap,Question.cut]
 refine⟨cap,#[]++(if n*i.size=0 then #[] else Builtin.zeroCells z.cells n)++Builtin.zeroCells z.cells (cap-n),hcap,?_,?_⟩
 ·by_cases h0:n*i.size=0
  ·rw[if_pos h0]
   have hsz:z.cells.size=0:=by
    rcases Nat.mul_eq_zero.1 h0 with h|h
    ·omega
    ·omega
   simp[Builtin.zeroCells,hsz]
  ·rw[if_neg h0]
   simp only[Builtin.zeroCells,Array.size_append,Array.size_map,Array.size_range,Array.size_empty,Nat.zero_add]
   rw[←Nat.add_mul]
   congr 1
   omega
 ·by_cases h0:n*i.size=0
  ·rw[if_pos h0]
   cases base<;>simp[Builtin.append_,run_underlying ht,run_underlying hu,sizeOf,typeInfo,zeroValue,hi,hz,hroom',h48,h49,h63',hneg,hw,hmax,Question.forced,newRow,ha,hn0,loadCellsFrom,h0,Builtin.firstCells,loadCells]<;>exact⟨rfl,rfl⟩
  ·rw[if_neg h0]
   cases base<;>simp[Builtin.append_,run_underlying ht,run_underlying hu,sizeOf,typeInfo,zeroValue,hi,hz,hroom',h48,h49,h63',hneg,hw,hmax,Question.forced,newRow,ha,hn0,loadCellsFrom,h0,Builtin.firstCells,loadCells]<;>exact⟨rfl,rfl⟩
end Go.Ab
namespace Go.Proofs.YtlmhknhlmicmeaaGreatDoor
open Go Go.Ab
theorem WC(base:Option Addr)(n:Nat)(h1:1≤n)(hn:n≤1073741824)(w:World):Calls Tryz.prog 373 #[.slice base 0 0,.int .i64 n] w fun e w'=>
 ∃cap row,n≤cap∧row.size=cap∧e=.returned (.slice (some ⟨w.heap.size,0,none⟩) 0 cap)∧w'={w.drew with heap:=w.heap.push (.cells row 9)}:=by
 obtain⟨cap,row,hc,hr,hm⟩:=DF (P:=Tryz.prog) (w:=w) (t:=22) (u:=3) (ty:=22) (e:=9) (base:=base) (n:=n) Tryz.underlying22 Tryz.underlying3 rfl rfl h1 hn (by decide +kernel) rfl
 have h0:¬((n:Int)<0):=by omega
 have h2:(0:Int)<n:=by omega
 go_enter Tryz.func373,Tryz.ntmps373
 go_wp2_with (at_builtin;refine Lib.wpList_append_run _ rfl _ _ _ _ rfl _ _ rfl rfl _ _ hm ?_)
 all_goals go_ret
 exact⟨cap,hc,row,hr.trans (Nat.mul_one _),rfl,rfl⟩
theorem Ua(base:Option Addr)(w:World):Calls Tryz.prog 373 #[.slice base 0 0,.int .i64 0] w fun e w'=>e=.returned (.slice base 0 0)∧w'=w:=by
 go_enter Tryz.func373,Tryz.ntmps373
 go_wp2
 all_goals go_ret
 exact⟨rfl,rfl⟩
theorem Y5(n:Nat)(hn:n≤1073741824)(bT:List Ab.Obj)(Ω:Store):dh Tryz.prog 373 [.c (.bD []),.c (.d (.i .i64 n))] (bT::Ω)
 (fun r S'=>r=.c (.bU (0,bT.length) [])∧S'=(bT++[.tok 1 []])::Ω):=by
 refine⟨⟨_,Tryz.func373,by kernel_rfl,by kernel_rfl⟩,fun w σ β vs hS hv=> ?_⟩
 obtain⟨hl,h⟩:=hv
 obtain⟨v0,e0,⟨h0,a,m,h00⟩,_⟩:=h 0 _ rfl
 obtain⟨v1,e1,h1,_⟩:=h 1 _ rfl
 have h1':v1=.int .i64 n:=by cases h1;rfl
 subst h1'
 have hm:m=0:=by rw[h00] at h0;cases h0<;>rfl
 subst hm
 subst h00
 have hvs:vs=[.slice a 0 0,.int .i64 n]:=by
  match vs,hl,e0,e1 with
  |[x,y],_,e0,e1=>simp at e0 e1;rw[e0,e1]
 subst hvs
 cases β with
 |nil=>have:=hS.shape.1;simp at this
 |cons bo bΩ=>
 have hlen:bo.length=bT.length:=by
  obtain⟨gr,g1,g2⟩:=hS.shape.2 0 bT rfl
  simp at g1;rw[g1];exact g2
 by_cases hz:n=0
 ·subst hz
  refine(Ua a w).mono fun e w' ⟨he,hw⟩=> ?_
  subst hw
  obtain⟨hS',hk,hst⟩:=hS.push (o:=.tok 1 []) (h:=.slice a 0 0) (Grow.refl hS.live) hlen ⟨h0,by simp,a,0,rfl,by simp,.inl rfl⟩ (fun b hb=>by cases a<;>simp[owns,blk] at hb)
  refine⟨_,.c (.bU (0,bT.length) []),_,_,_,he,hS',hk,hst,⟨⟨h0,.tok 1 [],?_,fun bK es e=> ?_⟩,rfl⟩,rfl,rfl⟩
  ·rw[dJ]
  ·obtain⟨_,rfl⟩:=nW (lab:=none) e;exact⟨Nat.le_refl _,fun _=>by rw[←hlen,dJ]⟩
 ·refine(WC a n (by omega) hn w).mono fun e w' ⟨cap,row,hc,hr,he,hw⟩=> ?_
  subst hw
  have hσ:σ w.heap.size=0:=(hS.live w.heap.size).resolve_left (by omega)
  have hg:Grow w σ {w.drew with heap:=w.heap.push (.cells row 9)} σ:=by
   refine⟨by simp,rfl,rfl,fun b hb=>⟨?_,rfl⟩,fun b=> ?_⟩
   ·simp only[Array.getElem?_push]
    rw[if_neg (by omega)]
   ·rcases hS.live b with hb|hb
    ·left;simp;omega
    ·exact .inr hb
  obtain⟨hS',hk,hst⟩:=hS.push (o:=.tok 1 []) (h:=.slice (some ⟨w.heap.size,0,none⟩) 0 cap) hg hlen ⟨.nil _ _,by simp,_,cap,rfl,by simp,.inr ⟨w.heap.size,0,row,9,rfl,by simp,by simp[hσ],by omega⟩⟩ (fun b hb=>by
   simp only[owns,blk] at hb
   split at hb
   ·cases hb
   ·cases hb;exact Nat.le_refl _)
  refine⟨_,.c (.bU (0,bT.length) []),_,_,_,he,hS',hk,hst,⟨⟨.nil _ _,.tok 1 [],?_,fun bK es e=> ?_⟩,rfl⟩,rfl,rfl⟩
  ·rw[dJ]
  ·obtain⟨_,rfl⟩:=nW (lab:=none) e;exact⟨Nat.le_refl _,fun _=>by rw[←hlen,dJ]⟩
theorem zl{xs:List (List UInt8)}:∀y∈xs.map encS,y.length=1:=fun y hy=>by
 obtain⟨z,_,rfl⟩:=List.mem_map.1 hy
 rfl
theorem BQ{α:Type}(xss:List (List α)){i:Nat}(hi:i<xss.length):(xss.take (i+1)).flatten.length=(xss.take i).flatten.length+xss[i].length:=by
 rw[List.take_succ_eq_append_getElem hi,List.flatten_append,List.length_append]
 simp only[List.flatten_cons,List.flatten_nil,List.append_nil]
theorem uV{α:Type}(xss:List (List α))(i:Nat):(xss.take i).flatten.length≤xss.flatten.length:=by
 conv=>rhs;rw[←List.take_append_drop i xss]
 rw[List.flatten_append,List.length_append]
 omega
theorem Ub(xss:List (List (List UInt8)))(hl:xss.length≤1073741824)(hf:xss.flatten.length≤1073741824):aG Tryz.prog 354 [.c (.d (.sl (xss.map fun a=>[.sl (a.map encS)])))] (.c (.d (.sl (xss.flatten.map encS)))):=fun S=>by
 refine aA (rs:=[.tmp 2]) Tryz.checked.mixed Tryz.func354 Tryz.ntmps354 rfl rfl rfl rfl rfl ?_
 first|refine W1 ?_|exact Z1
 refine aV (ι:=Nat) Tryz.checked.mixed rfl [0,3,9,10,11] (fun i=>[.c (.d (.sl (xss.map fun a=>[.sl (a.map encS)]))),.c (.d (.i .i64 (xss.take i).flatten.length)),.c (.d (.sl (xss.map fun a=>[.sl (a.map encS)]))),.c (.d (.i .i64 xss.length)),.c (.d (.i .i64 i))]) (fun _=>[]::S)
  (fun i=>i≤xss.length) (fun i=>xss.length-i) 0 rfl rfl (Nat.zero_le _) ?_
 rintro i p1
 have hfi:=uV xss i
 by_cases hi:i<xss.length
 ·have hs:=BQ xss hi
  have Y6:=uV xss (i+1)
  first|refine W1 ?_|exact Z1
  first|refine S0 (fun hb h=>?_) (fun hb h=>?_)|refine S1 fun hb h=>?_|refine S2 fun hb h=>?_|exact S3
  ·refine W3 ?_
   first|refine S0 (fun hb h=>?_) (fun hb h=>?_)|refine S1 fun hb h=>?_|refine S2 fun hb h=>?_|exact S3
   ·omega
   ·refine bL (i+1) (by omega) ?_ rfl (by omega)
    rw[hs];rfl
  ·omega
 have hi:i=xss.length:=by omega
 subst hi
 first|refine W1 ?_|exact Z1
 with_reducible refine aS (fun hb=> ?_) (fun hb=> ?_)<;>have h:=hb<;>(try simp only[wf_preprocess] at h)<;>simp -implicitDefEqProofs (disch:=omega) only[go_sem,hb]<;>(repeat(with_reducible refine And.intro ?_ ?_;focus first|omega|rfl|assumption|exact⟨_,rfl,rfl⟩|(simp;omega)|(simp;done)))
 ·omega
 rw[List.take_length]
 clear hfi
 refine bV rfl (Y5 xss.flatten.length hf [] S) ?_
 first|refine W1 ?_|exact Z1
 refine aV (ι:=Nat) Tryz.checked.mixed rfl [6,25,26,27] (fun i=>[.c (.bU (0,0) ((xss.take i).flatten.map encS)),.c (.d (.sl (xss.map fun a=>[.sl (a.map encS)]))),.c (.d (.i .i64 xss.length)),.c (.d (.i .i64 i))]) (fun i=>[.tok 1 ((xss.take i).flatten.map encS)]::S)
  (fun i=>i≤xss.length) (fun i=>xss.length-i) 0 rfl rfl (Nat.zero_le _) ?_
 rintro i p1
 have hfi:=uV xss i
 by_cases hi:i<xss.length
 ·have hs:=BQ xss hi
  have Y6:=uV xss (i+1)
  have e:(xss.take (i+1)).flatten.map encS=(xss.take i).flatten.map encS++xss[i].map encS:=by
   rw[List.take_succ_eq_append_getElem hi,List.flatten_append,List.map_append]
   simp only[List.flatten_cons,List.flatten_nil,List.append_nil]
  first|refine W1 ?_|exact Z1
  first|refine S0 (fun hb h=>?_) (fun hb h=>?_)|refine S1 fun hb h=>?_|refine S2 fun hb h=>?_|exact S3
  ·(repeat(with_reducible refine And.intro ?_ ?_;focus first|omega|rfl|assumption|exact⟨_,rfl,rfl⟩|(simp;omega)|(simp;done)))
   refine⟨zl,⟨_,rfl,rfl⟩,by omega,?_⟩
   exact bL (i+1) (by omega) (by rw[e];rfl) (by rw[e]) (by omega)
  ·omega
 ·have hi:i=xss.length:=by omega
  subst hi
  first|refine W1 ?_|exact Z1
  with_reducible refine aS (fun hb=> ?_) (fun hb=> ?_)<;>have h:=hb<;>(try simp only[wf_preprocess] at h)<;>simp -implicitDefEqProofs (disch:=omega) only[go_sem,hb]<;>(repeat(with_reducible refine And.intro ?_ ?_;focus first|omega|rfl|assumption|exact⟨_,rfl,rfl⟩|(simp;omega)|(simp;done)))
  ·omega
  rw[List.take_length]
theorem Uc(c:Nat)(w:World):Calls Tryz.prog 353 #[.slice none 0 c] w fun e w'=>e=.returned (.slice none 0 0)∧w'=w:=by
 have hb:(binOp .eql 22 (.slice none 0 c) (.slice none 0 0)).run Tryz.prog w=.ok (.bool true) w:=by
  simp[binOp,run_equal_slice_nil w _ _ _ _ _ Tryz.underlying22]
 go_enter Tryz.func353,Tryz.ntmps353
 go_wp2
 all_goals go_ret
 exact⟨rfl,rfl⟩
theorem Ud(w w':World)(a:Addr)(n c:Nat)(r:Value)(hm:(Builtin.append_ #[22,22] 22 #[.slice (some ⟨w.heap.size,0,none⟩) 0 0,.slice (some a) n c]).run Tryz.prog (w.alloc (.cells #[] 9))=.ok r w'):
 Calls Tryz.prog 353 #[.slice (some a) n c] w fun e w''=>e=.returned r∧w''=w':=by
 have hb:(binOp .eql 22 (.slice (some a) n c) (.slice none 0 0)).run Tryz.prog w=.ok (.bool false) w:=by
  simp[binOp,run_equal_slice_nil w _ _ _ _ _ Tryz.underlying22]
 go_enter Tryz.func353,Tryz.ntmps353
 go_wp2_with (at_builtin;refine Lib.wpList_append_run _ rfl _ _ _ _ rfl _ _ rfl rfl _ _ hm ?_)
 all_goals go_ret
 exact⟨rfl,rfl⟩
theorem WE(xs:List (List UInt8))(hx:xs.length≤1073741824)(bT:List Ab.Obj)(Ω:Store):dh Tryz.prog 353 [.c (.d (.sl (xs.map encS)))] (bT::Ω)
 (fun r S'=>r=.c (.bU (0,bT.length) (xs.map encS))∧S'=(bT++[.tok 1 (xs.map encS)])::Ω):=by
 have aeK:(xs.map encS).length≤1073741824:=by simpa using hx
 have h1:=zl (xs:=xs)
 generalize xs.map encS=es at *
 refine⟨⟨_,Tryz.func353,by kernel_rfl,by kernel_rfl⟩,fun w σ β vs hS hv=> ?_⟩
 obtain⟨hl,h⟩:=hv
 obtain⟨v,e0,hd,_⟩:=h 0 _ rfl
 have hd:eH w σ (.sl es) v:=hd
 have hvs:vs=[v]:=by
  match vs,hl,e0 with
  |[x],_,e0=>simp at e0;rw[e0]
 subst hvs
 cases β with
 |nil=>have:=hS.shape.1;simp at this
 |cons bo bΩ=>
 have hlen:bo.length=bT.length:=by
  obtain⟨gr,g1,g2⟩:=hS.shape.2 0 bT rfl
  simp at g1;rw[g1];exact g2
 have hv:∃a c,v=.slice a es.length c∧(a=none→es=[]):=by
  cases hd with
  |nil a cap=>exact⟨a,cap,rfl,fun _=>rfl⟩
  |sl b off cap bK es vals c t fz=>exact⟨_,_,rfl,fun h=>by cases h⟩
 obtain⟨a,c,rfl,ha⟩:=hv
 cases a with
 |none=>
  have:=ha rfl
  subst this
  refine(Uc c w).mono fun e w' ⟨he,hw⟩=> ?_
  subst hw
  obtain⟨hS',hk,hst⟩:=hS.push (o:=.tok 1 []) (h:=.slice none 0 0) (Grow.refl hS.live) hlen ⟨.nil _ _,by simp,none,0,rfl,by simp,.inl rfl⟩ (fun b hb=>by simp[owns,blk] at hb)
  refine⟨_,.c (.bU (0,bT.length) []),_,_,_,he,hS',hk,hst,⟨⟨.nil _ _,.tok 1 [],?_,fun bK es e=> ?_⟩,rfl⟩,rfl,rfl⟩
  ·rw[dJ]
  ·obtain⟨_,rfl⟩:=nW (lab:=none) e;exact⟨Nat.le_refl _,fun _=>by rw[←hlen,dJ]⟩
 |some a=>
  have hσ:σ w.heap.size=0:=(hS.live w.heap.size).resolve_left (by omega)
  have hg:Grow w σ (w.alloc (.cells #[] 9)) σ:=by
   have hh:(w.alloc (.cells #[] 9)).heap=w.heap.push (.cells #[] 9):=rfl
   refine⟨by rw[hh];simp,rfl,rfl,fun b hb=>⟨?_,rfl⟩,fun b=> ?_⟩
   ·rw[hh,Array.getElem?_push]
    rw[if_neg (by omega)]
   ·rcases hS.live b with hb|hb
    ·left;rw[hh];simp;omega
    ·exact .inr hb
  have xM:iI (w.alloc (.cells #[] 9)) σ [] [] (.tok 1 []) (.slice (some ⟨w.heap.size,0,none⟩) 0 0):=⟨.nil _ _,by simp,_,0,rfl,by simp,.inl rfl⟩
  obtain⟨r,w',σ',hr,hro,hsz,hos,hout,hn,hli,xL,hbk,hzero,h1c⟩:=vk (lab:=none) (P:=Tryz.prog) (w:=w.alloc (.cells #[] 9)) (σ:=σ) (S:=[]) (β:=[]) (t:=22) (u:=22) (ty:=22) (e:=9) (size:=1) (es:=[]) (ys:=es) hg.live Tryz.underlying22 (.inl ⟨_,Tryz.underlying22⟩) ⟨[.d (.s [])],by kernel_rfl,rfl⟩ rfl (by decide +kernel) xM (CG (eH.mono hg.near hd) h1) (by simpa using aeK)
  rw[List.nil_append] at hro hbk
  refine(Ud w w' a es.length c r hr).mono fun e w'' ⟨he,hw⟩=> ?_
  subst hw
  have hg2:Grow (w.alloc (.cells #[] 9)) σ w'' σ':=⟨hsz,hos,hout,fun b hb=>xL b hb (by simp[lJ,owns,blk]),hli⟩
  have hg3:=hg.trans hg2
  obtain⟨hS',hk,hst⟩:=hS.push (o:=.tok 1 es) (h:=r) hg3 hlen (hro _ _) (fun b hb=>by
   rcases hbk b hb with h|h
   ·simp[lJ,owns,blk] at h
   ·exact Nat.le_trans hg.size h)
  refine⟨_,.c (.bU (0,bT.length) es),_,_,_,he,hS',hk,hst,⟨⟨(hro [] []).1,.tok 1 es,?_,fun bK es' e=> ?_⟩,h1c⟩,rfl,rfl⟩
  ·rw[dJ]
  ·obtain⟨_,rfl⟩:=nW (lab:=none) e;exact⟨Nat.le_refl _,fun _=>by rw[←hlen,dJ]⟩
end Go.Proofs.YtlmhknhlmicmeaaGreatDoor
