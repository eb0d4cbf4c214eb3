/-
  SEVERAL TEXTS IN ONE (merged by program): contracts and models, each with its own heading.
-/
import Derived.Test.YtfhpfkaeldgcmaaGreatPartHdbB
import Derived.Carry
import Derived.WideKeyArgs
import Derived.ProofKit
import Derived.OpenShut
import Derived.WalkKit
import Derived.Test.YtfhpfkaeldgcmaaGreatChecked
import Derived.Eval
import Derived.KernelRfl
open Go.Proofs Go.Proofs.Tryz
theorem Go.Ab.zmx:Go.Proofs.Tryz.prog.follows .mixedOrders=true:=Go.Proofs.Tryz.checked.mixed
open Go Go.Ab in
theorem Go.Ab.zcx{N:Nat}{S:Store}{f:FuncId}{fn:Func}{c:Code}{args:List V}{post:V->Store->Prop}(rs:List ResultVar)(hf:Tryz.prog.funcs[f]? =some fn)(hN:fn.ntmps=N)(h:CW Tryz.prog N c (IW Tryz.prog rs post) ⟨kE (args.map (V.up 1)) 0,[]::S⟩)(hb:fn.body=some c:=by exact rfl)(hn:(fn.name== "runtime.NumGoroutine")=false:=by exact rfl)(hr:fn.results.toList=rs:=by exact rfl)(hl:Nat.ble args.length N=true:=by exact rfl)(hok:codeOk N c=true:=by exact rfl):cB Tryz.prog f args S post:=aV (rs:=rs) zmx hf hN hb hn hr hl hok h
set_option linter.unusedSimpArgs false
set_option linter.unusedVariables false
set_option maxRecDepth 4000
namespace Go.Ab
section
variable {P:Program} {S S':Store} {N:Nat} {s:St}
theorem aG{α:Type}{fr:List α}{S:List (List α)}{l j:Nat}:bg (fr::S) (1+l,j)=bg S (l,j):=by rw[Nat.add_comm,bY]
theorem ak{α:Type}{fr:List α}{S:List (List α)}{l j:Nat}{x:α}:aX (fr::S) (1+l,j) x=fr::aX S (l,j) x:=by rw[Nat.add_comm,aX]
theorem ahh{n l j:Nat}:zV n (l,j)=(n+l,j):=rfl
theorem V7{l j:Nat}{es:List (List D)}:C.ret (.bX (1+l,j) es)=some (.bX (l,j) es):=by
 rw[Nat.add_comm];show C.down 1 (.bX (l+1,j) es)=_;simp[C.down]
theorem ret_tsl_0{j:Nat}{es:List (List D)}:C.ret (.bX (0,j) es)=some (.d (.sl es)):=rfl
theorem ai7{x:D}:C.ret (.d x)=some (.d x):=rfl
theorem afr:C.ret .any=some .any:=rfl
theorem afs{es:List (List D)}:C.ret (.bI es)=some (.bI es):=rfl
theorem aft{n:Nat}{es:List (List D)}:C.ret (.nu n es)=some (.nu n es):=rfl
theorem aco{cs:List D}:C.ret (.kV cs)=some (.kV cs):=rfl
theorem afu{l j off:Nat}:C.ret (.ptr (1+l,j) off)=some (.ptr (l,j) off):=by
 rw[Nat.add_comm];show C.down 1 (.ptr (l+1,j) off)=_;simp[C.down]
theorem afv{j:Nat}{es es':List (List D)}{k:Key}:C.l9 j es (.bX k es')=.bX k es':=rfl
theorem ai8{x:D}:C.sZ (.d x)=.d x:=rfl
theorem afw:C.sZ .any=.any:=rfl
theorem afx{k:Key}{off:Nat}:C.sZ (.ptr k off)=.ptr k off:=rfl
theorem ahi{f:Nat}{caps:List (Key×Nat)}:C.sZ (.fn f caps)=.fn f caps:=rfl
theorem afy{k:Key}:C.sZ (.iH k)=.iH k:=rfl
theorem acp{cs:List D}:C.sZ (.kV cs)=.kV cs:=rfl
theorem ai9{j:Nat}{es:List (List D)}{x:D}:C.l9 j es (.d x)=.d x:=rfl
theorem afz{j:Nat}{es:List (List D)}:C.l9 j es .any=.any:=rfl
theorem afA{j:Nat}{es es':List (List D)}:C.l9 j es (.bI es')=.bI es':=rfl
theorem afB{j:Nat}{es:List (List D)}{k:Key}{off:Nat}:C.l9 j es (.ptr k off)=.ptr k off:=rfl
theorem ahj{j:Nat}{es:List (List D)}{f:Nat}{caps:List (Key×Nat)}:C.l9 j es (.fn f caps)=.fn f caps:=rfl
theorem afC{j n:Nat}{es es':List (List D)}:C.l9 j es (.nu n es')=.nu n es':=rfl
theorem afD{n:Nat}{es:List (List D)}:C.sZ (.nu n es)=.nu n es:=rfl
theorem acr{j:Nat}{es:List (List D)}{cs:List D}:C.l9 j es (.kV cs)=.kV cs:=rfl
theorem afE{j i:Nat}{es:List (List D)}:C.l9 j es (.iH (0,i))=if i=j then .d (.sl es) else .iH (0,i):=rfl
theorem cB.ahk{f:FuncId}(i:Nat){es:List (List D)}{aY:Nat}{args:List V}{post post':V->Store->Prop}(hi:args[i]? =some (.c (.bI es)))(hes:∀e∈es,e.length=aY)
 (h:cB P f ((args.map (V.up 1)).set i (.c (.bX (0,0) es))) ([.tok aY es]::S) post)
 (hp:∀r fr S',post r (fr::S')->∃r',r.ret=some r'/\post' r' S'):cB P f args S post':=by
 refine⟨h.1,fun w σ β vs hS hargs=> ?_⟩;obtain⟨v,hv0,⟨hd,ad,n,hval⟩,hone⟩:=hargs.2 i _ hi
 ·have hn:n=es.length:=by rw[hval] at hd;cases hd<;>rfl
  have hg:Grow w σ w σ:=Grow.refl hS.live
  obtain⟨hS',hk,hst⟩:=hS.up1.push (o:=.tok aY es) (h:=v) hg rfl ⟨hd,hes,ad,n,by rw[hval,hn],by omega,.inl hn⟩ (fun b hb=>by
   rw[hval,hn] at hb
   cases ad<;>simp[owns,blk] at hb)
  have hargs':qU w σ ([.tok aY es]::S) ([v]::β) ((args.map (V.up 1)).set i (.c (.bX (0,0) es))) vs:=by
   refine⟨by have:=hargs.1;simpa using this,fun j x hx=> ?_⟩;rw[List.getElem?_set] at hx;by_cases e:i=j
   ·subst e;rw[if_pos rfl] at hx;split at hx
    ·cases hx;refine⟨v,hv0,⟨hd,.tok aY es,rfl,fun a b e=> ?_⟩,hone⟩;obtain⟨_,rfl⟩:=pX (lab:=none) e;exact⟨Nat.le_refl _,fun _=>rfl⟩
    ·cases hx
   ·rw[if_neg e,List.getElem?_map] at hx
    cases ha:args[j]? with
    |none=>rw[ha] at hx;cases hx
    |some y=>
     rw[ha] at hx;cases hx;obtain⟨u,hu,hr⟩:=hargs.2 j y ha;exact⟨u,hu,GH (S:=[.tok aY es]::S) (β:=[v]::β) 1 hr⟩
  refine(h.2 w σ ([v]::β) vs hS' hargs').mono fun e w' ⟨v',r,S1,σ',β',he,hS1,hk1,Dv,hr1,hpost⟩=> ?_
  have hO:∀b,Own ([.tok aY es]::S) ([v]::β) b->Own S β b:=by
   rintro b ⟨⟨l,j⟩,o,hv,h1,h2,h3⟩
   cases l with
   |zero=>
    rw[bD] at h1 h2
    cases j with
    |zero=>
     cases h1;cases h2;rw[hval,hn] at h3;cases ad<;>simp[owns,blk] at h3
    |succ j=>simp at h1
   |succ l=>rw[bY] at h1 h2;exact⟨(l,j),o,hv,h1,h2,h3⟩
  cases S1 with
  |nil=>
   obtain⟨o',h1,_⟩:=hk1 (0,0) _ rfl;rw[ni] at h1;cases h1
  |cons fr S1=>
   cases β' with
   |nil=>have:=hS1.shape.1;simp at this
   |cons bo bΩ=>
    obtain⟨r',hr',hp'⟩:=hp r fr S1 hpost;refine⟨v',r',S1,σ',bΩ,he,hS1.Dx,hk1.drop 1,⟨Dv.size,Dv.os,Dv.output,fun b hb ho=>Dv.far b hb (fun x=>ho (hO b x)),Dv.near,fun b hb=>(Dv.own b (sV hb)).imp (hO b) id⟩,PO hr' hr1,hp'⟩
end
attribute [go_sem] aG ak ahh V7 ret_tsl_0 ai7 afr afs aco afu afv ai8 afw afx ahi afy acp ai9 afz afA afB ahj acr afE aft afC afD
section
variable {P:Program} {S S':Store} {N:Nat} {s:St}
theorem FC(S:Store)(β:Hs)(k:Key):Keep S β (aX S k .dead) β:=by
 intro k' o ho;by_cases e:k=k'
 ·subst e;exact⟨.dead,dn _ _ _ _ ho,.inl rfl⟩
 ·exact⟨o,by rw[eY _ _ _ _ e];exact ho,kT.refl _ _⟩
theorem yF{k k':Key}{o:Obj}(h:bg (aX S k .dead) k'=some o):(k=k'/\o=.dead)\/bg S k'=some o:=by
 by_cases e:k=k'
 ·subst e
  cases hg:bg S k with
  |none=>
   have:∀(S:Store)(k:Key),bg S k=none->aX S k .dead=S:=by
    intro S
    induction S with
    |nil=>intro k _;rfl
    |cons fr S ih=>
     rintro⟨l,j⟩ h
     cases l with
     |zero=>
      rw[bD] at h;rw[aX,List.set_eq_of_length_le (List.getElem?_eq_none_iff.1 h)]
     |succ l=>rw[bY] at h;rw[aX,ih _ h]
   rw[this S k hg,hg] at h;cases h
  |some y=>
   rw[dn _ _ _ _ hg] at h;cases h;exact .inl ⟨rfl,rfl⟩
 ·rw[eY _ _ _ _ e] at h;exact .inr h
theorem Qq(x:Obj):∀(S:Store)(k:Key),(aX S k x).length=S.length
 |[],k=>rfl
 |fr::S,(0,j)=>by rw[aX];simp
 |fr::S,(l+1,j)=>by rw[aX,List.length_cons,Qq x S,List.length_cons]
theorem Uc(x:Obj):∀(S:Store)(k:Key)(l:Nat)(fr:List Obj),(aX S k x)[l]? =some fr->∃Bn,S[l]? =some Bn/\Bn.length=fr.length
 |[],k,l,fr,h=>by simp[aX] at h
 |f::S,(0,j),0,fr,h=>by rw[aX] at h;simp at h;subst h;exact⟨f,rfl,by simp⟩
 |f::S,(0,j),l+1,fr,h=>by rw[aX] at h;exact⟨fr,by simpa using h,rfl⟩
 |f::S,(i+1,j),0,fr,h=>by rw[aX] at h;exact⟨fr,by simpa using h,rfl⟩
 |f::S,(i+1,j),l+1,fr,h=>by
  rw[aX] at h;simpa using Uc x S (i,j) l fr (by simpa using h)
theorem acs{w:World}{σ:Nat->Nat}{β:Hs}(k:Key)(hS:eF w σ S β):eF w σ (aX S k .dead) β:=by
 have hn:eD w σ w σ:=(Grow.refl hS.live).near;refine⟨fun k' o ho=> ?_,fun k1 k2 o1 o2 h1 h2 b e1 e2 e3 e4 e5 e6=> ?_,⟨by rw[Qq];exact hS.shape.1,fun l fr hl=> ?_⟩,hS.live,hS.vQ⟩
 ·rcases yF ho with⟨rfl,rfl⟩|ho'
  ·cases hg:bg S k with
   |none=>
    exfalso;have:=FC S β k;rcases yF (S:=S) (k:=k) (k':=k) ho with⟨_,_⟩|h
    ·
     have hne:bg (aX S k .dead) k=none:=by
      have:∀(S:Store)(k:Key),bg S k=none->bg (aX S k Obj.dead) k=none:=by
       intro S
       induction S with
       |nil=>intro k _;rw[aX,ni]
       |cons fr S ih=>
        rintro⟨l,j⟩ h
        cases l with
        |zero=>
         rw[bD] at h;rw[aX,bD,List.set_eq_of_length_le (List.getElem?_eq_none_iff.1 h)];exact h
        |succ l=>rw[bY] at h;rw[aX,bY];exact ih _ h
      exact this S k hg
     rw[hne] at ho;cases ho
    ·rw[hg] at h;cases h
   |some y=>
    obtain⟨h,hh,_⟩:=hS.obj k y hg;exact⟨h,hh,trivial⟩
  ·obtain⟨h,hh,hr⟩:=hS.obj k' o ho';exact⟨h,hh,hr.mono hn ((FC S β k).drop k'.1) fun b _=>⟨rfl,rfl⟩⟩
 ·rcases yF e1 with⟨_,rfl⟩|HY
  ·cases e3
  ·rcases yF e4 with⟨_,rfl⟩|e4'
   ·cases e6
   ·exact hS.apart k1 k2 o1 o2 h1 h2 b HY e2 e3 e4' e5 e6
 ·obtain⟨Bn,h1,h2⟩:=Uc _ S k l fr hl;obtain⟨gr,h3,h4⟩:=hS.shape.2 l Bn h1;exact⟨gr,h3,by omega⟩
def Less(r r':V):Prop:=∀w σ S β v,dP w σ S β r v->dP w σ S β r' v
theorem Less.refl(r:V):Less r r:=fun _ _ _ _ _ h=>h
theorem cB.kill{f:FuncId}{args:List V}{post post':V->Store->Prop}(k:Key)(h:cB P f args S post)(hp:∀r S',post r S'->∃r',Less r r'/\(post' r' S'\/post' r' (aX S' k .dead))):cB P f args S post':=by
 refine⟨h.1,fun w σ β vs hS hv=>(h.2 w σ β vs hS hv).mono fun e w' ⟨v,r,S',σ',β',h1,h2,h3,h4,h5,h6⟩=> ?_⟩;obtain⟨r',hl,hp|hp⟩:=hp r S' h6
 ·exact⟨v,r',S',σ',β',h1,h2,h3,h4,hl _ _ _ _ _ h5,hp⟩
 ·have hkeep:=FC S' β' k;refine⟨v,r',aX S' k .dead,σ',β',h1,acs k h2,h3.trans hkeep,⟨h4.size,h4.os,h4.output,h4.far,h4.near,fun b hb=> ?_⟩,hl _ _ _ _ _ (h5.mono (Grow.refl h2.live).near hkeep),hp⟩;obtain⟨k',o,hv,e1,e2,e3⟩:=hb;rcases yF e1 with⟨_,rfl⟩|HY
  ·cases e3
  ·exact h4.own b ⟨k',o,hv,HY,e2,e3⟩
theorem ah{x y:Obj}:∀(S:Store)(k:Key),aX (aX S k x) k y=aX S k y
 |[],k=>rfl
 |fr::S,(0,j)=>by rw[aX,aX,aX];simp
 |fr::S,(l+1,j)=>by rw[aX,aX,aX,ah S]
theorem Bp{x:Obj}:∀(S:Store)(k:Key),bg S k=some x->aX S k x=S
 |[],k,_=>rfl
 |fr::S,(0,j),h=>by
  rw[bD] at h;rw[aX];congr 1
  exact List.ext_getElem? fun i=>by
   rw[List.getElem?_set];split
   ·rename_i e;subst e;obtain⟨h1,h2⟩:=List.getElem?_eq_some_iff.1 h;simp[h1,h2]
   ·rfl
 |fr::S,(l+1,j),h=>by rw[bY] at h;rw[aX,Bp S _ h]
def uy:List Bool->List V->List V
 |true::m,v::vs=>v::uy m vs
 |false::m,v::vs=>v.sZ::uy m vs
 |[],vs=>vs.map V.sZ
 |_,[]=>[]
theorem IX:∀(m:List Bool)(vs:List V),vs.length=(uy m vs).length
 |true::m,v::vs=>by rw[uy,List.length_cons,List.length_cons,IX m vs]
 |false::m,v::vs=>by rw[uy,List.length_cons,List.length_cons,IX m vs]
 |[],vs=>by simp[uy]
 |true::m,[]=>rfl
 |false::m,[]=>rfl
theorem L8:∀(m:List Bool)(vs:List V)(j:Nat)(x y:V),vs[j]? =some x->(uy m vs)[j]? =some y->y=x\/y=x.sZ
 |true::m,v::vs,0,x,y,h1,h2=>by rw[uy] at h2;cases h1;cases h2;exact .inl rfl
 |false::m,v::vs,0,x,y,h1,h2=>by rw[uy] at h2;cases h1;cases h2;exact .inr rfl
 |true::m,v::vs,j+1,x,y,h1,h2=>by rw[uy] at h2;exact L8 m vs j x y h1 h2
 |false::m,v::vs,j+1,x,y,h1,h2=>by rw[uy] at h2;exact L8 m vs j x y h1 h2
 |[],vs,j,x,y,h1,h2=>by rw[uy,List.getElem?_map,h1] at h2;cases h2;exact .inr rfl
 |true::m,[],j,x,y,h1,h2=>by simp at h1
 |false::m,[],j,x,y,h1,h2=>by simp at h1
theorem cB.uy(m:List Bool){f:FuncId}{args:List V}{post:V->Store->Prop}(h:cB P f (Go.Ab.uy m args) S post):cB P f args S post:=
 h.weaken (IX m args) fun j x y hx hy w σ β v hr=>by
  rcases L8 m args j x y hx hy with e|e
  ·rw[e];exact hr
  ·rw[e];exact P6 hr
theorem cu(m:List Bool){dr:Option Nat}{f:FuncId}{args:List V}{dst:Option Nat}{K:St->Prop}{r:V}{S1:Store}(hm:aex dr=true)(h:cB P f (uy m args) s.st (fun r' S'=>r'=r/\S'=S1))(hK:K (St.put ⟨s.tm,S1⟩ dst r)):iJ P dr f args s dst K:=
 bn hm (h.uy m) hK
end
theorem bq.less{P:Program}{f:FuncId}{args:List V}{r r':V}(h:bq P f args r)(hl:Less r r'):bq P f args r':=
 fun S=>(h S).kill (0,0) fun r1 S' e=>⟨r',by rw[e.1];exact hl,.inl ⟨rfl,e.2⟩⟩
section
variable {P:Program} {S:Store}
def tu(n:Nat)(caps:List (Key×Nat)):List (Key×Nat):=caps.map fun y=>(zV n y.1,y.2)
theorem V8{n:Nat}:tu n []=[]:=rfl
theorem SI{n l j off:Nat}{caps:List (Key×Nat)}:tu n (((l,j),off)::caps)=((n+l,j),off)::tu n caps:=rfl
theorem Nb{m n:Nat}{caps:List (Key×Nat)}:tu m (tu n caps)=tu (m+n) caps:=by
 unfold tu;rw[List.map_map];refine List.map_congr_left fun y _=> ?_;simp only[Function.comp,zV,Prod.mk.injEq,and_true];omega
theorem Qr:∀(F S:Store)(l j:Nat),bg (F++S) (F.length+l,j)=bg S (l,j)
 |[],S,l,j=>by simp
 |fr::F,S,l,j=>by
  rw[List.cons_append,List.length_cons,show F.length+1+l=(F.length+l)+1 from by omega,bY,Qr F S l j]
theorem Qs(x:Obj):∀(F S:Store)(l j:Nat),aX (F++S) (F.length+l,j) x=F++aX S (l,j) x
 |[],S,l,j=>by simp
 |fr::F,S,l,j=>by
  rw[List.cons_append,List.length_cons,show F.length+1+l=(F.length+l)+1 from by omega,aX,Qs x F S l j,List.cons_append]
theorem Zl{F S:Store}{j:Nat}:bg (F++S) (F.length,j)=bg S (0,j):=Qr F S 0 j
theorem Zm{F S:Store}{j:Nat}{x:Obj}:aX (F++S) (F.length,j) x=F++aX S (0,j) x:=Qs x F S 0 j
attribute [go_sem] Zl Zm V8 SI
def V9(P:Program)(g:Nat)(caps:List (Key×Nat))(S:Store)(xs:List V)(r:V):Prop:=
 ∀F:Store,cB P g (xs++Ce (tu F.length caps)) (F++S) (fun r' S'=>r'=r/\S'=F++S)
theorem V9.push{g:Nat}{caps:List (Key×Nat)}{xs:List V}{r:V}(h:V9 P g caps S xs r)(fr:List Obj):V9 P g (tu 1 caps) (fr::S) xs r:=fun F=>by
 have:=h (F++[fr]);rw[Nb];simpa using this
def Wd(P:Program)(g:Nat)(caps:List (Key×Nat)){α X:Type}(st:α->Store)(I:Nat->α->Prop)(f:α->X->α)(xv:X->V)(ok:X->Prop):Prop:=
 ∀n a u,I (n+1) a->ok u->I n (f a u)/\∀F:Store,cB P g (xv u::Ce (tu F.length caps)) (F++st a) (fun r' S'=>r'=.eH []/\S'=F++st (f a u))
theorem Wd.push{g:Nat}{caps:List (Key×Nat)}{α X:Type}{st:α->Store}{I:Nat->α->Prop}{f:α->X->α}{xv:X->V}{ok:X->Prop}(h:Wd P g caps st I f xv ok)(fr:List Obj):
 Wd P g (tu 1 caps) (fun a=>fr::st a) I f xv ok:=fun n a u ha hu=>⟨(h n a u ha hu).1,fun F=>by
 have:=(h n a u ha hu).2 (F++[fr]);rw[Nb]
 simpa using this⟩
theorem Bq{N:Nat}{c:Code}{Q:Exit->St->Prop}{tm:List (Nat×V)}{own:List Obj}{Ω:Store}(j i aY:Nat)(es:List (List D))(cs:List C)(hj:own[j]? =some (.box cs))(hi:cs[i]? =some (.bI es))(hes:∀e∈es,e.length=aY)
 (h:AW P N c Q ⟨tm,(own.set j (.box (cs.set i (.bX (0,own.length) es)))++[.tok aY es])::Ω⟩):AW P N c Q ⟨tm,own::Ω⟩:=by
 refine lU h fun a w σ β hR=> ?_;obtain⟨bo,bΩ,rfl,hlen⟩:=frames hR;have hjl:=(List.getElem?_eq_some_iff.1 hj).1
 have hg0:bg (own::Ω) (0,j)=some (.box cs):=by rw[bD];exact hj
 obtain⟨hb,HV,hr⟩:=hR.S.obj (0,j) _ hg0;obtain⟨b,cv,ty,rfl,hbc,hσ,hcs⟩:=hr;have hcs:fD w σ (own::Ω) (bo::bΩ) cs cv.toList:=hcs;obtain⟨v,hv,⟨hd,ad,n,hval⟩,hone⟩:=hcs.2 i _ hi
 have hn:n=es.length:=by rw[hval] at hd;cases hd<;>rfl
 have hg:Grow w σ w σ:=Grow.refl hR.S.live
 obtain⟨hS',hk,hst⟩:=hR.S.push (o:=.tok aY es) (h:=v) hg hlen ⟨hd,hes,ad,n,by rw[hval,hn],by omega,.inl hn⟩ (fun b hb=>by
  rw[hval,hn] at hb
  cases ad<;>simp[owns,blk] at hb)
 have hk1:bg ((own++[.tok aY es])::Ω) (0,j)=some (.box cs):=jo _ _ _ _ _ hg0;have Ki:bg ((bo++[v])::bΩ) (0,j)=some (.pointer (some ⟨b,0,none⟩)):=jo _ _ _ _ _ HV;have hko:kT (.box cs) (some (Value.pointer (some ⟨b,0,none⟩))) (.box (cs.set i (.bX (0,own.length) es))) (some (Value.pointer (some ⟨b,0,none⟩))):=.inr ⟨⟨_,rfl⟩,rfl⟩
 have hK:Keep ((own++[.tok aY es])::Ω) ((bo++[v])::bΩ) (aX ((own++[.tok aY es])::Ω) (0,j) (.box (cs.set i (.bX (0,own.length) es)))) (aX ((bo++[v])::bΩ) (0,j) (.pointer (some ⟨b,0,none⟩))):=by
  intro k1 o1 e1;by_cases e:k1=(0,j)
  ·subst e;rw[hk1] at e1;cases e1;exact⟨_,dn _ _ _ _ hk1,by rw[Ki,dn _ _ _ _ Ki];exact hko⟩
  ·exact⟨o1,(eY _ _ _ _ (Ne.symm e)).trans e1,by rw[eY _ _ _ _ (Ne.symm e)];exact .refl _ _⟩
 have hne:(0,own.length)≠(0,j):=fun e=>by injection e with _ e;omega
 obtain⟨hS2,hk2,Ai⟩:=hS'.set (w':=w) (σ':=σ) (o':=.box (cs.set i (.bX (0,own.length) es))) (h':=.pointer (some ⟨b,0,none⟩)) hk1 Ki (Nat.le_refl _) rfl rfl (eD.refl _ _) hS'.live (fun _ _ _=>⟨rfl,rfl⟩) hko
  ⟨b,cv,ty,rfl,hbc,hσ,by
    refine⟨by rw[List.length_set];exact hcs.1,fun m x hm=> ?_⟩;rw[List.getElem?_set] at hm;by_cases e:i=m
    ·subst e;rw[if_pos rfl] at hm;split at hm
     ·cases hm;refine⟨v,hv,⟨hd,.tok aY es,?_,fun a1 b1 e1=> ?_⟩,hone⟩
      ·show bg (aX _ (0,j) _) (0,own.length)=_;rw[eY _ _ _ _ (Ne.symm hne),dH]
      ·obtain⟨_,rfl⟩:=pX (lab:=none) e1;refine⟨Nat.le_refl _,fun _=> ?_⟩;show bg (aX _ (0,j) _) (0,own.length)=_;rw[eY _ _ _ _ (Ne.symm hne),<-hlen,dH]
     ·cases hm
    ·rw[if_neg e] at hm;obtain⟨u,hu,hc,ho⟩:=hcs.2 m x hm
     exact⟨u,hu,(hc.mono (eD.refl _ _) hk).mono (eD.refl _ _) hK,ho⟩⟩ (fun _ e=>.inl e)
 have est:aX ((own++[.tok aY es])::Ω) (0,j) (.box (cs.set i (.bX (0,own.length) es)))=(own.set j (.box (cs.set i (.bX (0,own.length) es)))++[.tok aY es])::Ω:=by
  rw[aX,List.set_append_left _ _ hjl]
 rw[est] at hS2 hk2 Ai
 exact⟨σ,_,⟨hR.size,hR.defers,hS2,fun u=>((hR.T u).mono (eD.refl _ _) hk).mono (eD.refl _ _) hk2⟩,hst.trans Ai,by
  have:=hk.trans hk2
  exact this.tail⟩
end
inductive D.Fit:D->Prop
 |b (x):Fit (.b x)
 |i (k n):Fit (.i k n)
 |s (l) (h:l.length<=9223372036854775807):Fit (.s l)
 |sl (es) (h:es.length<=9223372036854775807) (hh:∀e∈es,∀d∈e,Fit d):Fit (.sl es)
 |o (v):Fit (.o v)
def Ao(cs:List D):Prop:=∀d∈cs,d.Fit
theorem Ap:Ao []:=fun d h=>by cases h
theorem Br{d:D}{ds:List D}:Ao (d::ds)<->d.Fit/\Ao ds:=by simp[Ao]
theorem SK{a b:List D}:Ao (a++b)<->Ao a/\Ao b:=by
 simp only[Ao,List.mem_append];exact⟨fun h=>⟨fun d hd=>h d (.inl hd),fun d hd=>h d (.inr hd)⟩,fun h d hd=>hd.elim (h.1 d) (h.2 d)⟩
def WTF(P:Program)(W:TypeId->List D->Prop):List Field->List D->Prop
 |[],ds=>ds=[]
 |f::fs,ds=>∃a b,ds=a++b/\a.length=P.cellsOf f.type/\W f.type a/\WTF P W fs b
def WT(P:Program):Nat->TypeId->List D->Prop
 |0,_,_=>False
 |n+1,t,ds=>
  match P.underlying t with
  |some .bool=>∃b,ds=[.b b]
  |some (.int k)=>∃x,ds=[.i k x]/\(Lit.int k x).wf=true
  |some .string=>∃l,ds=[.s l]/\l.length<=9223372036854775807
  |some (.slice e)=>∃es,ds=[.sl es]/\es.length<=9223372036854775807/\∀x∈es,x.length=P.cellsOf e/\WT P n e x
  |some (.struct fs)=>WTF P (WT P n) fs.toList ds
  |_=>False
def zB(P:Program):List Field->Nat->Nat->Bool
 |[],a,b=>a==b
 |f::fs,a,b=>f.offset==a&&zB P fs (a+P.cellsOf f.type) b
def L9(P:Program)(L:List TypeId):Bool:=
 L.all fun t=>match P.underlying t with
  |some .bool|some (.int _)|some .string=>P.cellsOf t==1
  |some (.slice e)=>P.cellsOf t==1&&L.contains e&&decide (0<P.cellsOf e)
  |some (.struct fs)=>zB P fs.toList 0 (P.cellsOf t)&&fs.toList.all fun f=>L.contains f.type
  |_=>false
def kN(w:World)(b:Nat):Nat:=match w.heap[b]? with
 |some (.cells c _ _)=>c.size
 |_=>0
def qX(w:World)(ds:List D)(vs:List Value):Prop:=ds.length=vs.length/\∀(j:Nat)(d:D),ds[j]? =some d->∃v,vs[j]? =some v/\dM w (kN w) d v/\v.oneCell'=true
theorem qX.append{w:World}{a b:List D}{xs ys:List Value}(h1:qX w a xs)(h2:qX w b ys):qX w (a++b) (xs++ys):=by
 refine⟨by simp[h1.1,h2.1],fun j d hj=> ?_⟩;rw[List.getElem?_append] at hj ⊢;have:=h1.1;split at hj
 ·rw[if_pos (by omega)];exact h1.2 j d hj
 ·rw[if_neg (by omega),<-h1.1];exact h2.2 _ d hj
theorem qX.one{w:World}{d:D}{v:Value}(h:dM w (kN w) d v)(h1:v.oneCell'=true):qX w [d] [v]:=by
 refine⟨rfl,fun j x hj=> ?_⟩
 cases j with
 |zero=>cases hj;exact⟨v,rfl,h,h1⟩
 |succ j=>simp at hj
theorem Qt{α β:Type}(f:α->Option β):∀(l:List α)(ys:List β),l.mapM f=some ys->ys.length=l.length/\∀(j:Nat)(x:α),l[j]? =some x->∃y,f x=some y/\ys[j]? =some y
 |[],ys,h=>by
  simp at h;subst h;exact⟨rfl,fun j x hj=>by simp at hj⟩
 |a::l,ys,h=>by
  rw[List.mapM_cons] at h
  cases ha:f a with
  |none=>rw[ha] at h;cases h
  |some y=>
   cases hl:l.mapM f with
   |none=>rw[ha,hl] at h;cases h
   |some zs=>
    rw[ha,hl] at h;cases h;obtain⟨h1,h2⟩:=Qt f l zs hl;refine⟨by simp[h1],fun j x hj=> ?_⟩
    cases j with
    |zero=>cases hj;exact⟨y,ha,rfl⟩
    |succ j=>exact h2 j x hj
section
variable {H:Type} {enc:TypeId×Value->H} {P:Program} {w:World} {L:List TypeId}
theorem DT{a:Addr}{n:Nat}{vs:List Value}(hn:0<n)(h:w.cells? 0 a n=some vs):a.spot=none/\vs.length=n/\∃c t fz,w.heap[a.block]? =some (.cells c t fz)/\∀j,j<n->∃v,vs[j]? =some v/\c[a.off+j]? =some v:=by
 unfold World.cells? at h;rw[if_pos (Nat.zero_le _)] at h;obtain⟨h1,h2⟩:=Qt _ _ _ h;rw[List.length_range] at h1;obtain⟨v0,hv0,_⟩:=h2 0 0 (by simp[hn])
 have OE:a.add 0=a:=by simp[Addr.add]
 rw[OE] at hv0;unfold World.cell? at hv0
 cases hb:w.heap[a.block]? with
 |none=>rw[hb] at hv0;cases hv0
 |some ob=>
  rw[hb] at hv0
  cases ob with
  |map _ _=>cases hv0
  |cells c t fz=>
   have hs:a.spot=none:=by
    cases hsp:a.spot with
    |none=>rfl
    |some x=>rw[hsp] at hv0;simp at hv0
   refine⟨hs,h1,c,t,fz,rfl,fun j hj=> ?_⟩;obtain⟨v,hv,hvs⟩:=h2 j j (by simp[hj]);refine⟨v,hvs,?_⟩;unfold World.cell? at hv;by_cases hj0:j=0
   ·subst hj0;rw[OE,hb] at hv;simp[hs] at hv;simpa using hv
   ·simp[Addr.add,hj0,hb] at hv;exact hv
  |_=>cases hv0
theorem H9{α:Type}{p:Nat->α->Prop}:∀n:Nat,(∀i,i<n->∃x,p i x)->∃l:List α,l.length=n/\∀(i:Nat)(x:α),l[i]? =some x->p i x
 |0,_=>⟨[],rfl,fun i x h=>by simp at h⟩
 |n+1,h=>by
  obtain⟨l,hl,hp⟩:=H9 n fun i hi=>h i (by omega);obtain⟨x,hx⟩:=h n (by omega);refine⟨l++[x],by simp[hl],fun i y hy=> ?_⟩;rw[List.getElem?_append] at hy;split at hy
  ·exact hp i y hy
  ·rename_i hlt
   have hi:i-l.length<1:=by
    have:=(List.getElem?_eq_some_iff.1 hy).1;simpa using this
   have:i=n:=by omega
   subst this;rw[show i-l.length=0 from by omega] at hy;cases hy;exact hx
theorem Zn(hc:L9 P L=true){t:TypeId}(ht:t∈L):(match P.underlying t with
 |some .bool|some (.int _)|some .string=>P.cellsOf t==1
 |some (.slice e)=>P.cellsOf t==1&&L.contains e&&decide (0<P.cellsOf e)
 |some (.struct fs)=>zB P fs.toList 0 (P.cellsOf t)&&fs.toList.all fun f=>L.contains f.type
 |_=>false)=true:=List.all_eq_true.1 hc t ht
theorem SL{n:Nat}{fs:List Field}{cs:List Value}:∀(off:Nat),off<=cs.length->zB P fs off cs.length=true->
 (∀f∈fs,∃ds,WT P n f.type ds/\qX w ds ((cs.drop f.offset).take (P.cellsOf f.type)))->∃ds,WTF P (WT P n) fs ds/\qX w ds (cs.drop off):=by
 induction fs with
 |nil=>
  intro off _ ht _
  have:off=cs.length:=by simpa [zB] using ht
  exact⟨[],rfl,by simp[this,qX]⟩
 |cons f fs ih=>
  intro off ho ht h;simp only[zB,Bool.and_eq_true,beq_iff_eq] at ht;obtain⟨a,ha1,ha2⟩:=h f (by simp)
  have hle:∀(fs:List Field)(o:Nat),zB P fs o cs.length=true->o<=cs.length:=by
   intro fs
   induction fs with
   |nil=>intro o h;have:o=cs.length:=by simpa [zB] using h
         omega
   |cons g gs ih=>intro o h;simp only[zB,Bool.and_eq_true] at h;have:=ih _ h.2;omega
  have hle':=hle fs _ ht.2;obtain⟨b,hb1,hb2⟩:=ih (off+P.cellsOf f.type) hle' ht.2 fun g hg=>h g (by simp[hg]);rw[ht.1] at ha2;refine⟨a++b,⟨a,b,rfl,?_,ha1,hb1⟩,?_⟩
  ·rw[ha2.1];simp;omega
  ·have:=ha2.append hb2;rw[<-List.drop_drop,List.take_append_drop] at this;exact this
theorem FD(hc:L9 P L=true){sp:Nat->Bool}{held:Bool}:∀(fuel:Nat)(t:TypeId)(cs:List Value)(x:DataW H×List MemPlace),t∈L->
 DataW.trod enc P w 0 sp held fuel t cs=some x->∃ds,WT P fuel t ds/\qX w ds cs
 |0,t,cs,x,_,h=>by simp[DataW.trod] at h
 |n+1,t,cs,x,ht,h=>by
  have hcl:=Zn hc ht
  cases hu:P.underlying t with
  |none=>rw[hu] at hcl;cases hcl
  |some u=>
   rw[hu] at hcl
   cases u with
   |bool=>
    obtain⟨b,rfl,_⟩:=DataW.trod_bool hu h;exact⟨[.b b],by simp only[WT,hu];exact⟨b,rfl⟩,qX.one (.b b) rfl⟩
   |int k=>
    obtain⟨m,rfl,_,hw⟩:=DataW.trod_int hu h;exact⟨[.i k m],by simp only[WT,hu];exact⟨m,rfl,hw⟩,qX.one (.i k m) rfl⟩
   |string=>
    obtain⟨s,rfl,_,hs⟩:=DataW.trod_string hu h
    have hl:s.data.toList.length<=9223372036854775807:=by
     have h1:s.data.toList.length=s.size:=by rw[Array.length_toList];rfl
     rw[h1];exact hs
    refine⟨[.s s.data.toList],?_,qX.one ?_ rfl⟩
    ·simp only[WT,hu];exact⟨_,rfl,hl⟩
    ·exact .s s.data.toList
   |slice e=>
    simp only[Bool.and_eq_true,beq_iff_eq,decide_eq_true_eq,List.contains_iff_mem] at hcl;obtain⟨⟨h1,he⟩,hpos⟩:=hcl;rcases DataW.trod_slice hu h with⟨rfl,_⟩|⟨a,len,cap,elems,rest,m,hm,rfl,_,_,hlc,hcm,hel,hget,_,_⟩
    ·exact⟨[.sl []],by simp only[WT,hu];exact⟨[],rfl,by simp,fun x hx=>by cases hx⟩,qX.one (.nil _ _) rfl⟩
    ·cases hm
     have hall:∀i,i<len->∃ds:List D,ds.length=P.cellsOf e/\WT P n e ds/\∃vs,w.cells? 0 (a.add (i*P.cellsOf e)) (P.cellsOf e)=some vs/\qX w ds vs:=by
      intro i hi;have hg:=hget i hi
      cases hcs:w.cells? 0 (a.add (i*P.cellsOf e)) (P.cellsOf e) with
      |none=>
       rw[hcs] at hg
       have:i<elems.length:=by omega
       rw[List.getElem?_eq_getElem this] at hg;cases hg
      |some vs=>
       rw[hcs] at hg
       have hlt:i<elems.length:=by omega
       rw[List.getElem?_eq_getElem hlt] at hg;obtain⟨ds,hd1,hd2⟩:=FD hc n e vs _ he hg;have hv:=(DT hpos hcs).2.1;exact⟨ds,by rw[hd2.1,hv],hd1,vs,rfl,hd2⟩
     obtain⟨es,hes,hp⟩:=H9 len hall
     have hwt:WT P (n+1) t [.sl es]:=by
      simp only[WT,hu]
      refine⟨es,rfl,by have:cap<=9223372036854775807:=hcm
                       omega,fun x hx=> ?_⟩
      obtain⟨i,hi⟩:=List.getElem?_of_mem hx;exact⟨(hp i x hi).1,(hp i x hi).2.1⟩
     refine⟨[.sl es],hwt,?_⟩
     cases Du:es with
     |nil=>
      have h0:len=0:=by rw[<-hes,Du];rfl
      subst h0;exact qX.one (.nil _ _) rfl
     |cons e0 es0=>
      have aja:0<len:=by rw[<-hes,Du];simp
      have hlen:∀x∈es,x.length=P.cellsOf e:=fun x hx=>by
       obtain⟨i,hi⟩:=List.getElem?_of_mem hx;exact(hp i x hi).1
      obtain⟨ds0,_,_,vs0,ahl,_⟩:=hall 0 aja
      have OE:a.add (0*P.cellsOf e)=a:=by simp[Addr.add]
      rw[OE] at ahl;obtain⟨hsp,_,c,tt,fz,hblk,_⟩:=DT hpos ahl
      have hcell:∀i r,i<len->r<P.cellsOf e->∃(x:List D) (v:Value) (d:D),es[i]? =some x/\x[r]? =some d/\c[a.off+(i*P.cellsOf e+r)]? =some v/\dM w (kN w) d v:=by
       intro i r hi hr
       have hlt:i<es.length:=by omega
       obtain⟨hx1,hx2,vs,hvs,hrep⟩:=hp i es[i] (List.getElem?_eq_getElem hlt);obtain⟨_,hvl,c',t',Po,hblk',hcc⟩:=DT hpos hvs
       have hb':(a.add (i*P.cellsOf e)).block=a.block:=by unfold Addr.add;split<;>rfl
       have ho':(a.add (i*P.cellsOf e)).off=a.off+i*P.cellsOf e:=by unfold Addr.add;split<;>simp_all
       rw[hb',hblk] at hblk';cases hblk';obtain⟨v,hv1,hv2⟩:=hcc r hr
       have hdr:r<es[i].length:=by omega
       obtain⟨v',hv',hd',_⟩:=hrep.2 r es[i][r] (List.getElem?_eq_getElem hdr);rw[hv1] at hv';cases hv';refine⟨es[i],v,es[i][r],List.getElem?_eq_getElem hlt,List.getElem?_eq_getElem hdr,?_,hd'⟩;rw[ho'] at hv2;rw[<-Nat.add_assoc];exact hv2
      have hbound:a.off+len*P.cellsOf e<=c.size:=by
       obtain⟨_,v,_,_,_,hv,_⟩:=hcell (len-1) (P.cellsOf e-1) (by omega) (by omega);have:=(Array.getElem?_eq_some_iff.1 hv).1
       have e1:(len-1)*P.cellsOf e+P.cellsOf e=len*P.cellsOf e:=by
        rw[<-Nat.succ_mul];congr 1;omega
       omega
      have key:dM w (kN w) (.sl es) (.slice (some ⟨a.block,a.off,none⟩) es.length cap):=by
       refine .sl a.block a.off cap (P.cellsOf e) es (fun j=>(c[a.off+j]?).getD undef) c tt fz (by omega) hlen hblk ?_ (fun j hj=> ?_) (fun j d hj=> ?_)
       ·unfold kN;rw[hblk,hes];exact hbound
       ·have:a.off+j<c.size:=by rw[hes] at hj;omega
        rw[Array.getElem?_eq_getElem this];rfl
       ·have hfl:es.flatten.length=es.length*P.cellsOf e:=jc es _ hlen
        have hjl:j<es.length*P.cellsOf e:=by rw[<-hfl];exact(List.getElem?_eq_some_iff.1 hj).1
        have hi:j/P.cellsOf e<len:=by rw[<-hes];exact(Nat.div_lt_iff_lt_mul hpos).2 hjl
        obtain⟨x,v,d',hx,hd',hv,hr⟩:=hcell (j/P.cellsOf e) (j % P.cellsOf e) hi (Nat.mod_lt _ hpos)
        have hlt':j/P.cellsOf e<es.length:=by omega
        have hfg:=flat_get es (P.cellsOf e) hlen (j/P.cellsOf e) (j % P.cellsOf e) hlt' (Nat.mod_lt _ hpos)
        have hj':j/P.cellsOf e*P.cellsOf e+j % P.cellsOf e=j:=by rw[Nat.mul_comm];exact Nat.div_add_mod j _
        rw[hj',hj] at hfg;rw[List.getElem?_eq_getElem hlt'] at hx;cases hx;rw[hd'] at hfg;cases hfg;rw[hj'] at hv;rw[hv];exact hr
      rw[<-Du];refine qX.one ?_ rfl
      have ha:a=⟨a.block,a.off,none⟩:=by cases a;simp at hsp;simp[hsp]
      rw[ha,<-hes];exact key
   |struct fs=>
    simp only[Bool.and_eq_true] at hcl;obtain⟨htl,hfs⟩:=hcl;obtain⟨xs,m,hm,rfl,hlen,hxs,akA⟩:=DataW.trod_struct hu h;cases hm;rw[<-hlen] at htl
    obtain⟨ds,h1,h2⟩:=SL (w:=w) (n:=n) (cs:=cs) 0 (Nat.zero_le _) htl fun f hf=>by
     obtain⟨i,hi⟩:=List.getElem?_of_mem hf
     have hi':fs[i]? =some f:=by simpa using hi
     have hg:=akA i f hi'
     have hlt:i<xs.length:=by
      rw[hxs];exact(Array.getElem?_eq_some_iff.1 hi').1
     rw[List.getElem?_eq_getElem hlt] at hg
     have hfL:f.type∈L:=by
      have:=List.all_eq_true.1 hfs f hf;simpa using this
     exact FD hc n f.type _ _ hfL hg
    refine⟨ds,by simp only[WT,hu];exact h1,?_⟩;rw[List.drop_zero] at h2;exact h2
   |_=>cases hcl
end
open Go.ChangeShapes Go.WideShapes Go.ChangeAt Go.RowKit
section
variable {H:Type} {enc:TypeId×Value->H} {P:Program} {W W':World} {L:List TypeId} {t:TypeId} {v:Value} {base:Nat}
theorem acu{d:D}(hv:v.cells.toList=[v])(hL:qX W [d] v.cells.toList):dP W (kN W) [] [] (.c (.d d)) v:=by
 obtain⟨u,h1,h2,h3⟩:=hL.2 0 d rfl;rw[hv] at h1;cases h1;exact⟨h2,h3⟩
theorem Zo{e:TypeId}{d:D}(ht:P.underlying t=some (.slice e))(hok:Value.okWide P W .any base t v)(hL:qX W [d] v.cells.toList):dP W (kN W) [] [] (.c (.d d)) v:=by
 obtain⟨a,n,m,rfl⟩:=okWide_slice ht hok;exact acu rfl hL
theorem Zp:qU W (kN W) [] [] [] []:=⟨rfl,fun j x h=>by simp at h⟩
theorem Wh{x:V}{xs:List V}{vs:List Value}(h1:dP W (kN W) [] [] x v)(h2:qU W (kN W) [] [] xs vs):qU W (kN W) [] [] (x::xs) (v::vs):=by
 refine⟨by simp[h2.1],fun j y hj=> ?_⟩
 cases j with
 |zero=>cases hj;exact⟨v,rfl,h1⟩
 |succ j=>exact h2.2 j y hj
theorem acv(W:World)(hg:zW W (kN W)):eF W (kN W) [] [] where
 vQ:=hg
 obj:=fun k o h=>by rw[ni] at h;cases h
 apart:=fun k k' o o' h h' b h1=>by rw[ni] at h1;cases h1
 shape:=⟨rfl,fun l fr h=>by simp at h⟩
 live:=fun b=>by
  by_cases h:b<W.heap.size
  ·exact .inl h
  ·right;unfold kN;rw[Array.getElem?_eq_none (by omega)]
theorem ahm{b:Nat}:¬Own [] [] b:=fun⟨k,o,h,h1,_⟩=>by rw[ni] at h1;cases h1
theorem EI(hl:laidOutB P=true)(hsame:∀b,b<W.heap.size->W'.heap[b]? =W.heap[b]?)(sp:Nat->Bool):∀(ts:List TypeId)(vs:List Value)(ds:List (DataW H))(ps:List MemPlace),
 (ts.all fun t=>P.readableRec t&&decide (t<P.types.size))=true->(∀p∈ps,p.block<W.heap.size/\sp p.block=true)->
   DataW.TrodAll enc P W 0 (fun _=>true) true ts vs ds ps->DataW.TrodAll enc P W' 0 sp true ts vs ds ps
 |[],[],[],ps,_,_,h=>h
 |t::ts,v::vs,d::ds,ps,hr,hlt,h=>by
  simp only[List.all_cons,Bool.and_eq_true,decide_eq_true_eq] at hr;obtain⟨p,q,h1,h2,rfl⟩:=h;refine⟨p,q,WideElems.Trod_stays hl hr.1.1 hr.1.2 h1 (fun x hx=> ?_) (fun x hx=>(hlt x (by simp[hx])).2),EI hl hsame sp ts vs ds q hr.2 (fun x hx=>hlt x (by simp[hx])) h2,rfl⟩;have hb:=(hlt x (by simp[hx])).1
  cases x with
  |cell b o=>exact World.cell?_of_block (w:=W) (hsame b hb)
  |map b=>exact hsame b hb
 |[],[],_::_,ps,_,_,h=>h.elim
 |[],_::_,_,ps,_,_,h=>h.elim
 |_::_,[],_,ps,_,_,h=>h.elim
 |_::_,_::_,[],ps,_,_,h=>h.elim
theorem acw{f:FuncId}{fn:Func}{s:ChangeSpec}{args:Array Value}{ds gs:List (DataW H)}{before:List MemPlace}{vs:List V}{tb:TypeId}(hl:laidOutB P=true)
 (hr:(fn.params.toList.all fun t=>P.readableRec t&&decide (t<P.types.size))=true)(hvars:s.vars=[])(hres:fn.resultTypes= #[tb])(htb:P.underlying tb=some .bool)
 (hs1:(s.fn H (ds++gs)).results=[.lit (.bool true)])(hs2:(s.fn H (ds++gs)).args=ds)(hs3:(s.fn H (ds++gs)).vars=[])
 (hW:DataW.Whole enc P fn.params.toList s.vars false W args.toList ds gs before)(hargs:qU W (kN W) [] [] vs args.toList)
 (hcall:cB P f vs [] fun r _=>r=.c (.d (.b true)))(ajb:zW W (kN W):=by(intro g p hm;exact absurd hm List.not_mem_nil)):
 Calls P f args W fun e W'=>∃v,e=.returned v/\s.post enc P fn false true false false W args v W':=by
 have hc:=hcall.2 W (kN W) [] args.toList (acv W ajb) hargs
 have e1:args.toList.toArray=args:=by simp
 rw[e1] at hc;refine hc.mono fun e W' ⟨v,r,S',σ',β',he,hS',hk,hst,hv,hp⟩=> ?_;subst hp;obtain⟨hv,_⟩:=hv;cases hv;refine⟨_,he,?_⟩;have hsame:∀b,b<W.heap.size->W'.heap[b]? =W.heap[b]? :=fun b hb=>(hst.far b hb ahm).1;have hlt:=fun p hp=>hW.lt p hp;have hW0:=hW;obtain⟨pa,q,hA,hV,rfl,hz,hn⟩:=hW;rw[hvars] at hV
 have hq:gs=[]/\q=[]:=by
  obtain⟨h1,h2⟩:=trodVars_none hV;exact⟨h1,h2⟩
 obtain⟨rfl,rfl⟩:=hq
 rw[List.append_nil] at *
 refine⟨ds,[],pa,[],pa,[],?_,?_,?_,?_,?_,fun h=>by cases h⟩
 ·simpa using hW0
 ·rw[List.append_nil,hs1,hres];exact trodAll_cons_mk (shut_bool htb _) trodAll_mk0
 ·rw[List.append_nil,hs2];exact EI hl hsame _ _ _ _ _ hr (fun p hp=>⟨hlt p hp,by simpa using hlt p hp⟩) hA
 ·rw[List.append_nil,hs3,hvars];rfl
 ·refine⟨hst.os,hst.output,fun i hi=> ?_⟩;rw[hsame i hi];split<;>simp_all
end
mutual
def D.sz:D->Nat
 | .s l=>l.length
 | .sl es=>es.length+aI es
 | .b _=>0
 | .i _ _=>0
 | .o _=>0
 | .ol _ es=>es.length+aI es
def bF:List D->Nat
 |[]=>0
 |d::ds=>d.sz+bF ds
def aI:List (List D)->Nat
 |[]=>0
 |r::rs=>bF r+aI rs
end
theorem bL:∀(a b:List D),bF (a++b)=bF a+bF b
 |[],b=>by simp[bF]
 |d::ds,b=>by rw[List.cons_append,bF,bL ds b,bF];omega
def lW(left:Int)(n:Nat):Int:=if left-n<0 then -1 else left-n
theorem GN{l:Int}{a:Nat}(h:¬lW l a<0):lW l a=l-a/\0<=l-a:=by
 unfold lW at *
 split at h
 ·omega
 ·rename_i h';exact⟨if_neg h',by omega⟩
theorem DU{l:Int}{a:Nat}(h:lW l a<0):l-a<0:=by
 unfold lW at *
 split at h<;>omega
theorem GQ{l:Int}{a:Nat}(h:l-a<0):lW l a= -1:=if_pos h
theorem Qu{l:Int}{a:Nat}(h:0<=l-a):lW l a=l-a:=if_neg (by omega)
theorem int_eq{k:IntKind}{a b:Int}(h:a=b):V.c (.d (.i k a))=V.c (.d (.i k b)):=by rw[h]
theorem bO{a b:Bool}(h:a=b):V.c (.d (.b a))=V.c (.d (.b b)):=by rw[h]
noncomputable def dec(p:Prop):Bool:= @decide p (Classical.propDecidable p)
theorem dQ{p:Prop}(h:p):dec p=true:=by simp[dec,h]
theorem bK{p:Prop}(h:¬p):dec p=false:=by simp[dec,h]
theorem gL{p:Prop}(h:dec p=true):p:=by simpa [dec] using h
theorem j5{p:Prop}(h:dec p=false):¬p:=by simpa [dec] using h
theorem Ia{p:Prop}:(dec p=true)=p:=by simp[dec]
theorem Qv{p:Prop}:(dec p=false)=¬p:=by simp[dec]
attribute [wf_preprocess] Ia Qv
theorem kP{p q:Prop}(h:p<->q):dec p=dec q:=by rw[propext h]
theorem acy:dec True=true:=dQ trivial
theorem Zq:dec False=false:=bK id
attribute [go_sem] acy Zq
theorem qY{p:Prop}[Decidable p]:decide p=dec p:=by by_cases h:p<;>simp[dec,h]
theorem dV{r:List D}:∀{rs:List (List D)},r∈rs->bF r<=aI rs
 |a::rs,h=>by
  rw[aI];rcases List.mem_cons.1 h with rfl|h
  ·omega
  ·have:=dV h;omega
def mH(z i:Nat)(R rows:List (List D)):Prop:=R.length=rows.length/\(∀r∈R,r.length=z)/\∀j,j<i->R[j]? =rows[j]?
theorem mH.start{z:Nat}{rows:List (List D)}{zero:List D}{n:Nat}(hn:n=rows.length)(h:zero.length=z):mH z 0 (List.replicate n zero) rows:=by
 subst hn;exact⟨by simp,fun r hr=>by rw[List.eq_of_mem_replicate hr];exact h,fun j h=>by omega⟩
theorem mH.step{z i:Nat}{R rows:List (List D)}{row:List D}(h:mH z i R rows)(hi:rows[i]? =some row)(hr:row.length=z):mH z (i+1) (R.set i (r9 (R.getD i []) 0 row)) rows:=by
 obtain⟨h1,h2,h3⟩:=h;have hlt:i<rows.length:=(List.getElem?_eq_some_iff.1 hi).1
 have hs:r9 (R.getD i []) 0 row=row:=by
  have hm:R.getD i []∈R:=by
   rw[List.getD_eq_getElem?_getD,List.getElem?_eq_getElem (by omega)];exact List.getElem_mem _
  have:=h2 _ hm;unfold r9;rw[List.take_zero,List.nil_append,Nat.zero_add,hr,List.drop_eq_nil_of_le (by omega),List.append_nil]
 rw[hs];refine⟨by simpa using h1,fun r hr'=> ?_,fun j hj=> ?_⟩
 ·rcases List.mem_or_eq_of_mem_set hr' with h|h
  ·exact h2 r h
  ·rw[h];exact hr
 ·by_cases e:j=i
  ·subst e;rw[hi,List.getElem?_set_self (by omega)]
  ·rw[List.getElem?_set_ne (by omega)];exact h3 j (by omega)
theorem mH.done{z i:Nat}{R rows:List (List D)}(h:mH z i R rows)(hi:rows.length<=i):R=rows:=by
 obtain⟨h1,h2,h3⟩:=h;refine List.ext_getElem? fun j=> ?_;by_cases hj:j<i
 ·exact h3 j hj
 ·rw[List.getElem?_eq_none (by omega),List.getElem?_eq_none (by omega)]
def encS(s:List UInt8):List D:=[.s s]
def encI(n:Int):List D:=[.i .i64 n]
inductive ay where
 |mk (aR:Int) (fName:List UInt8) (fArgs:List ay)
def ay.aR:ay->Int| .mk x _ _=>x
def ay.fName:ay->List UInt8| .mk _ x _=>x
def ay.fArgs:ay->List ay| .mk _ _ x=>x
theorem ay.eta(x:ay):ay.mk x.aR x.fName x.fArgs=x:=by cases x;rfl
theorem ay.ext{x y:ay}(h0:x.aR=y.aR)(h1:x.fName=y.fName)(h2:x.fArgs=y.fArgs):x=y:=by
 rw[<-ay.eta x,<-ay.eta y,h0,h1,h2]
mutual
def ay.enc:ay->List D
 | .mk a0 a1 a2=>[.i .i64 a0,.s a1,.sl (ay.encs a2)]
def ay.encs:List ay->List (List D)
 |[]=>[]
 |x::xs=>x.enc::ay.encs xs
end
theorem ay.jL:∀l,ay.encs l=l.map ay.enc
 |[]=>rfl
 |x::xs=>by rw[ay.encs,List.map_cons,ay.jL xs]
theorem ay.aj(x:ay):x.enc=[.i .i64 x.aR,.s x.fName,.sl (x.fArgs.map ay.enc)]:=by
 cases x;simp only[ay.enc,ay.jL,ay.aR,ay.fName,ay.fArgs]
abbrev ay.v(x:ay):V:=.agg [.d (.i .i64 x.aR),.d (.s x.fName),.d (.sl (x.fArgs.map ay.enc))]
theorem ay.uz(x:ay): .agg (x.enc.map .d)=x.v:=by
 simp only[ay.aj,List.map_cons,List.map_nil,List.cons_append,List.nil_append,List.map_append]
theorem ay.cZ(x:ay):x.enc.length=3:=by
 simp only[ay.aj,List.length_append,List.length_cons,List.length_nil]
def ay.sz(x:ay):Nat:=bF x.enc
theorem ay.cK(x:ay):bF x.enc=x.sz:=rfl
theorem ay.kQ(x:ay):SizeOf.sizeOf x.fArgs<SizeOf.sizeOf x:=by cases x;simp[ay.fArgs];omega
structure dW where
 fVar:List UInt8
 fType:ay
def dW.enc(x:dW):List D:=[.s x.fVar]++(x.fType.enc)
theorem dW.aj(x:dW):x.enc=[.s x.fVar]++(x.fType.enc):=rfl
theorem dW.eta(x:dW):dW.mk x.fVar x.fType=x:=rfl
theorem dW.ext'{x y:dW}(h0:x.fVar=y.fVar)(h1:x.fType=y.fType):x=y:=by
 cases x;cases y;simp_all
abbrev dW.v(x:dW):V:=.agg [.d (.s x.fVar),.d (.i .i64 x.fType.aR),.d (.s x.fType.fName),.d (.sl (x.fType.fArgs.map ay.enc))]
theorem dW.uz(x:dW): .agg (x.enc.map .d)=x.v:=by
 simp only[dW.aj,ay.aj,List.map_cons,List.map_nil,List.cons_append,List.nil_append,List.map_append]
theorem dW.cZ(x:dW):x.enc.length=4:=by
 simp only[dW.aj,ay.cZ,List.length_append,List.length_cons,List.length_nil]
def dW.sz(x:dW):Nat:=bF x.enc
theorem dW.cK(x:dW):bF x.enc=x.sz:=rfl
structure aM where
 bU:List UInt8
 fType:ay
def aM.enc(x:aM):List D:=[.s x.bU]++(x.fType.enc)
theorem aM.aj(x:aM):x.enc=[.s x.bU]++(x.fType.enc):=rfl
theorem aM.eta(x:aM):aM.mk x.bU x.fType=x:=rfl
theorem aM.ext'{x y:aM}(h0:x.bU=y.bU)(h1:x.fType=y.fType):x=y:=by
 cases x;cases y;simp_all
abbrev aM.v(x:aM):V:=.agg [.d (.s x.bU),.d (.i .i64 x.fType.aR),.d (.s x.fType.fName),.d (.sl (x.fType.fArgs.map ay.enc))]
theorem aM.uz(x:aM): .agg (x.enc.map .d)=x.v:=by
 simp only[aM.aj,ay.aj,List.map_cons,List.map_nil,List.cons_append,List.nil_append,List.map_append]
theorem aM.cZ(x:aM):x.enc.length=4:=by
 simp only[aM.aj,ay.cZ,List.length_append,List.length_cons,List.length_nil]
def aM.sz(x:aM):Nat:=bF x.enc
theorem aM.cK(x:aM):bF x.enc=x.sz:=rfl
mutual
inductive aC where
 |mk (aR:Int) (bU:List UInt8) (fName:List UInt8) (fN:Int) (fType:ay) (fArgs:List aC) (bE:List aZ)
inductive aZ where
 |mk (fK:List UInt8) (aO:List (List UInt8)) (fBody:aC)
end
def aC.aR:aC->Int| .mk x _ _ _ _ _ _=>x
def aC.bU:aC->List UInt8| .mk _ x _ _ _ _ _=>x
def aC.fName:aC->List UInt8| .mk _ _ x _ _ _ _=>x
def aC.fN:aC->Int| .mk _ _ _ x _ _ _=>x
def aC.fType:aC->ay| .mk _ _ _ _ x _ _=>x
def aC.fArgs:aC->List aC| .mk _ _ _ _ _ x _=>x
def aC.bE:aC->List aZ| .mk _ _ _ _ _ _ x=>x
theorem aC.eta(x:aC):aC.mk x.aR x.bU x.fName x.fN x.fType x.fArgs x.bE=x:=by cases x;rfl
theorem aC.ext{x y:aC}(h0:x.aR=y.aR)(h1:x.bU=y.bU)(h2:x.fName=y.fName)(h3:x.fN=y.fN)(h4:x.fType=y.fType)(h5:x.fArgs=y.fArgs)(h6:x.bE=y.bE):x=y:=by
 rw[<-aC.eta x,<-aC.eta y,h0,h1,h2,h3,h4,h5,h6]
def aZ.fK:aZ->List UInt8| .mk x _ _=>x
def aZ.aO:aZ->List (List UInt8)| .mk _ x _=>x
def aZ.fBody:aZ->aC| .mk _ _ x=>x
theorem aZ.eta(x:aZ):aZ.mk x.fK x.aO x.fBody=x:=by cases x;rfl
theorem aZ.ext{x y:aZ}(h0:x.fK=y.fK)(h1:x.aO=y.aO)(h2:x.fBody=y.fBody):x=y:=by
 rw[<-aZ.eta x,<-aZ.eta y,h0,h1,h2]
mutual
def aC.enc:aC->List D
 | .mk a0 a1 a2 a3 a4 a5 a6=>[.i .i64 a0,.s a1,.s a2,.i .i64 a3]++(a4.enc++([.sl (aC.encs a5),.sl (aZ.encs a6)]))
def aC.encs:List aC->List (List D)
 |[]=>[]
 |x::xs=>x.enc::aC.encs xs
def aZ.enc:aZ->List D
 | .mk a0 a1 a2=>[.s a0,.sl (a1.map encS)]++(aC.enc a2)
def aZ.encs:List aZ->List (List D)
 |[]=>[]
 |x::xs=>x.enc::aZ.encs xs
end
theorem aC.jL:∀l,aC.encs l=l.map aC.enc
 |[]=>rfl
 |x::xs=>by rw[aC.encs,List.map_cons,aC.jL xs]
theorem aZ.jL:∀l,aZ.encs l=l.map aZ.enc
 |[]=>rfl
 |x::xs=>by rw[aZ.encs,List.map_cons,aZ.jL xs]
theorem aC.aj(x:aC):x.enc=[.i .i64 x.aR,.s x.bU,.s x.fName,.i .i64 x.fN]++(x.fType.enc++([.sl (x.fArgs.map aC.enc),.sl (x.bE.map aZ.enc)])):=by
 cases x;simp only[aC.enc,aC.jL,aZ.jL,aC.aR,aC.bU,aC.fName,aC.fN,aC.fType,aC.fArgs,aC.bE]
theorem aZ.aj(x:aZ):x.enc=[.s x.fK,.sl (x.aO.map encS)]++(x.fBody.enc):=by
 cases x;simp only[aZ.enc,aC.jL,aZ.jL,aZ.fK,aZ.aO,aZ.fBody]
abbrev aC.v(x:aC):V:=.agg [.d (.i .i64 x.aR),.d (.s x.bU),.d (.s x.fName),.d (.i .i64 x.fN),.d (.i .i64 x.fType.aR),.d (.s x.fType.fName),.d (.sl (x.fType.fArgs.map ay.enc)),.d (.sl (x.fArgs.map aC.enc)),.d (.sl (x.bE.map aZ.enc))]
theorem aC.uz(x:aC): .agg (x.enc.map .d)=x.v:=by
 simp only[aC.aj,ay.aj,List.map_cons,List.map_nil,List.cons_append,List.nil_append,List.map_append]
theorem aC.cZ(x:aC):x.enc.length=9:=by
 simp only[aC.aj,ay.cZ,List.length_append,List.length_cons,List.length_nil]
def aC.sz(x:aC):Nat:=bF x.enc
theorem aC.cK(x:aC):bF x.enc=x.sz:=rfl
theorem aC.kQ(x:aC):SizeOf.sizeOf x.fArgs<SizeOf.sizeOf x:=by cases x;simp[aC.fArgs];omega
theorem aC.zP(x:aC):SizeOf.sizeOf x.bE<SizeOf.sizeOf x:=by cases x;simp[aC.bE];omega
abbrev aZ.v(x:aZ):V:=.agg [.d (.s x.fK),.d (.sl (x.aO.map encS)),.d (.i .i64 x.fBody.aR),.d (.s x.fBody.bU),.d (.s x.fBody.fName),.d (.i .i64 x.fBody.fN),.d (.i .i64 x.fBody.fType.aR),.d (.s x.fBody.fType.fName),.d (.sl (x.fBody.fType.fArgs.map ay.enc)),.d (.sl (x.fBody.fArgs.map aC.enc)),.d (.sl (x.fBody.bE.map aZ.enc))]
theorem aZ.uz(x:aZ): .agg (x.enc.map .d)=x.v:=by
 simp only[aZ.aj,aC.aj,ay.aj,List.map_cons,List.map_nil,List.cons_append,List.nil_append,List.map_append]
theorem aZ.cZ(x:aZ):x.enc.length=11:=by
 simp only[aZ.aj,aC.cZ,List.length_append,List.length_cons,List.length_nil]
def aZ.sz(x:aZ):Nat:=bF x.enc
theorem aZ.cK(x:aZ):bF x.enc=x.sz:=rfl
theorem aZ.xB(x:aZ):SizeOf.sizeOf x.fBody<SizeOf.sizeOf x:=by cases x;simp[aZ.fBody];omega
inductive au where
 |mk (bC:List UInt8) (aA:List au)
def au.bC:au->List UInt8| .mk x _=>x
def au.aA:au->List au| .mk _ x=>x
theorem au.eta(x:au):au.mk x.bC x.aA=x:=by cases x;rfl
theorem au.ext{x y:au}(h0:x.bC=y.bC)(h1:x.aA=y.aA):x=y:=by
 rw[<-au.eta x,<-au.eta y,h0,h1]
mutual
def au.enc:au->List D
 | .mk a0 a1=>[.s a0,.sl (au.encs a1)]
def au.encs:List au->List (List D)
 |[]=>[]
 |x::xs=>x.enc::au.encs xs
end
theorem au.jL:∀l,au.encs l=l.map au.enc
 |[]=>rfl
 |x::xs=>by rw[au.encs,List.map_cons,au.jL xs]
theorem au.aj(x:au):x.enc=[.s x.bC,.sl (x.aA.map au.enc)]:=by
 cases x;simp only[au.enc,au.jL,au.bC,au.aA]
abbrev au.v(x:au):V:=.agg [.d (.s x.bC),.d (.sl (x.aA.map au.enc))]
theorem au.uz(x:au): .agg (x.enc.map .d)=x.v:=by
 simp only[au.aj,List.map_cons,List.map_nil,List.cons_append,List.nil_append,List.map_append]
theorem au.cZ(x:au):x.enc.length=2:=by
 simp only[au.aj,List.length_append,List.length_cons,List.length_nil]
def au.sz(x:au):Nat:=bF x.enc
theorem au.cK(x:au):bF x.enc=x.sz:=rfl
theorem au.CR(x:au):SizeOf.sizeOf x.aA<SizeOf.sizeOf x:=by cases x;simp[au.aA];omega
structure aK where
 fName:List UInt8
 bS:List ay
 dB:ay
 iy:Bool
 aO:List (List UInt8)
 fBody:aC
def aK.enc(x:aK):List D:=[.s x.fName,.sl (x.bS.map ay.enc)]++(x.dB.enc++([.b x.iy,.sl (x.aO.map encS)]++(x.fBody.enc)))
theorem aK.aj(x:aK):x.enc=[.s x.fName,.sl (x.bS.map ay.enc)]++(x.dB.enc++([.b x.iy,.sl (x.aO.map encS)]++(x.fBody.enc))):=rfl
theorem aK.eta(x:aK):aK.mk x.fName x.bS x.dB x.iy x.aO x.fBody=x:=rfl
theorem aK.ext'{x y:aK}(h0:x.fName=y.fName)(h1:x.bS=y.bS)(h2:x.dB=y.dB)(h3:x.iy=y.iy)(h4:x.aO=y.aO)(h5:x.fBody=y.fBody):x=y:=by
 cases x;cases y;simp_all
abbrev aK.v(x:aK):V:=.agg [.d (.s x.fName),.d (.sl (x.bS.map ay.enc)),.d (.i .i64 x.dB.aR),.d (.s x.dB.fName),.d (.sl (x.dB.fArgs.map ay.enc)),.d (.b x.iy),.d (.sl (x.aO.map encS)),.d (.i .i64 x.fBody.aR),.d (.s x.fBody.bU),.d (.s x.fBody.fName),.d (.i .i64 x.fBody.fN),.d (.i .i64 x.fBody.fType.aR),.d (.s x.fBody.fType.fName),.d (.sl (x.fBody.fType.fArgs.map ay.enc)),.d (.sl (x.fBody.fArgs.map aC.enc)),.d (.sl (x.fBody.bE.map aZ.enc))]
theorem aK.uz(x:aK): .agg (x.enc.map .d)=x.v:=by
 simp only[aK.aj,aC.aj,ay.aj,List.map_cons,List.map_nil,List.cons_append,List.nil_append,List.map_append]
theorem aK.cZ(x:aK):x.enc.length=16:=by
 simp only[aK.aj,aC.cZ,ay.cZ,List.length_append,List.length_cons,List.length_nil]
def aK.sz(x:aK):Nat:=bF x.enc
theorem aK.cK(x:aK):bF x.enc=x.sz:=rfl
structure bG where
 fName:List UInt8
 dJ:List (List UInt8)
 nH:Bool
 bV:Bool
 aS:List aK
def bG.enc(x:bG):List D:=[.s x.fName,.sl (x.dJ.map encS),.b x.nH,.b x.bV,.sl (x.aS.map aK.enc)]
theorem bG.aj(x:bG):x.enc=[.s x.fName,.sl (x.dJ.map encS),.b x.nH,.b x.bV,.sl (x.aS.map aK.enc)]:=rfl
theorem bG.eta(x:bG):bG.mk x.fName x.dJ x.nH x.bV x.aS=x:=rfl
theorem bG.ext'{x y:bG}(h0:x.fName=y.fName)(h1:x.dJ=y.dJ)(h2:x.nH=y.nH)(h3:x.bV=y.bV)(h4:x.aS=y.aS):x=y:=by
 cases x;cases y;simp_all
abbrev bG.v(x:bG):V:=.agg [.d (.s x.fName),.d (.sl (x.dJ.map encS)),.d (.b x.nH),.d (.b x.bV),.d (.sl (x.aS.map aK.enc))]
theorem bG.uz(x:bG): .agg (x.enc.map .d)=x.v:=by
 simp only[bG.aj,List.map_cons,List.map_nil,List.cons_append,List.nil_append,List.map_append]
theorem bG.cZ(x:bG):x.enc.length=5:=by
 simp only[bG.aj,List.length_append,List.length_cons,List.length_nil]
def bG.sz(x:bG):Nat:=bF x.enc
theorem bG.cK(x:bG):bF x.enc=x.sz:=rfl
structure aJ where
 fName:List UInt8
 iw:List ay
def aJ.enc(x:aJ):List D:=[.s x.fName,.sl (x.iw.map ay.enc)]
theorem aJ.aj(x:aJ):x.enc=[.s x.fName,.sl (x.iw.map ay.enc)]:=rfl
theorem aJ.eta(x:aJ):aJ.mk x.fName x.iw=x:=rfl
theorem aJ.ext'{x y:aJ}(h0:x.fName=y.fName)(h1:x.iw=y.iw):x=y:=by
 cases x;cases y;simp_all
abbrev aJ.v(x:aJ):V:=.agg [.d (.s x.fName),.d (.sl (x.iw.map ay.enc))]
theorem aJ.uz(x:aJ): .agg (x.enc.map .d)=x.v:=by
 simp only[aJ.aj,List.map_cons,List.map_nil,List.cons_append,List.nil_append,List.map_append]
theorem aJ.cZ(x:aJ):x.enc.length=2:=by
 simp only[aJ.aj,List.length_append,List.length_cons,List.length_nil]
def aJ.sz(x:aJ):Nat:=bF x.enc
theorem aJ.cK(x:aJ):bF x.enc=x.sz:=rfl
structure bB where
 fName:List UInt8
 aO:List (List UInt8)
 aW:List aJ
def bB.enc(x:bB):List D:=[.s x.fName,.sl (x.aO.map encS),.sl (x.aW.map aJ.enc)]
theorem bB.aj(x:bB):x.enc=[.s x.fName,.sl (x.aO.map encS),.sl (x.aW.map aJ.enc)]:=rfl
theorem bB.eta(x:bB):bB.mk x.fName x.aO x.aW=x:=rfl
theorem bB.ext'{x y:bB}(h0:x.fName=y.fName)(h1:x.aO=y.aO)(h2:x.aW=y.aW):x=y:=by
 cases x;cases y;simp_all
abbrev bB.v(x:bB):V:=.agg [.d (.s x.fName),.d (.sl (x.aO.map encS)),.d (.sl (x.aW.map aJ.enc))]
theorem bB.uz(x:bB): .agg (x.enc.map .d)=x.v:=by
 simp only[bB.aj,List.map_cons,List.map_nil,List.cons_append,List.nil_append,List.map_append]
theorem bB.cZ(x:bB):x.enc.length=3:=by
 simp only[bB.aj,List.length_append,List.length_cons,List.length_nil]
def bB.sz(x:bB):Nat:=bF x.enc
theorem bB.cK(x:bB):bF x.enc=x.sz:=rfl
structure aN where
 fName:List UInt8
 aO:List (List UInt8)
 fBody:aC
def aN.enc(x:aN):List D:=[.s x.fName,.sl (x.aO.map encS)]++(x.fBody.enc)
theorem aN.aj(x:aN):x.enc=[.s x.fName,.sl (x.aO.map encS)]++(x.fBody.enc):=rfl
theorem aN.eta(x:aN):aN.mk x.fName x.aO x.fBody=x:=rfl
theorem aN.ext'{x y:aN}(h0:x.fName=y.fName)(h1:x.aO=y.aO)(h2:x.fBody=y.fBody):x=y:=by
 cases x;cases y;simp_all
abbrev aN.v(x:aN):V:=.agg [.d (.s x.fName),.d (.sl (x.aO.map encS)),.d (.i .i64 x.fBody.aR),.d (.s x.fBody.bU),.d (.s x.fBody.fName),.d (.i .i64 x.fBody.fN),.d (.i .i64 x.fBody.fType.aR),.d (.s x.fBody.fType.fName),.d (.sl (x.fBody.fType.fArgs.map ay.enc)),.d (.sl (x.fBody.fArgs.map aC.enc)),.d (.sl (x.fBody.bE.map aZ.enc))]
theorem aN.uz(x:aN): .agg (x.enc.map .d)=x.v:=by
 simp only[aN.aj,aC.aj,ay.aj,List.map_cons,List.map_nil,List.cons_append,List.nil_append,List.map_append]
theorem aN.cZ(x:aN):x.enc.length=11:=by
 simp only[aN.aj,aC.cZ,List.length_append,List.length_cons,List.length_nil]
def aN.sz(x:aN):Nat:=bF x.enc
theorem aN.cK(x:aN):bF x.enc=x.sz:=rfl
structure aH where
 bU:List UInt8
 aO:List (List UInt8)
 dA:ay
 dO:List aM
 iA:Bool
 fB:Bool
 bV:ay
 aQ:List aN
def aH.enc(x:aH):List D:=[.s x.bU,.sl (x.aO.map encS)]++(x.dA.enc++([.sl (x.dO.map aM.enc),.b x.iA,.b x.fB]++(x.bV.enc++([.sl (x.aQ.map aN.enc)]))))
theorem aH.aj(x:aH):x.enc=[.s x.bU,.sl (x.aO.map encS)]++(x.dA.enc++([.sl (x.dO.map aM.enc),.b x.iA,.b x.fB]++(x.bV.enc++([.sl (x.aQ.map aN.enc)])))):=rfl
theorem aH.eta(x:aH):aH.mk x.bU x.aO x.dA x.dO x.iA x.fB x.bV x.aQ=x:=rfl
theorem aH.ext'{x y:aH}(h0:x.bU=y.bU)(h1:x.aO=y.aO)(h2:x.dA=y.dA)(h3:x.dO=y.dO)(h4:x.iA=y.iA)(h5:x.fB=y.fB)(h6:x.bV=y.bV)(h7:x.aQ=y.aQ):x=y:=by
 cases x;cases y;simp_all
abbrev aH.v(x:aH):V:=.agg [.d (.s x.bU),.d (.sl (x.aO.map encS)),.d (.i .i64 x.dA.aR),.d (.s x.dA.fName),.d (.sl (x.dA.fArgs.map ay.enc)),.d (.sl (x.dO.map aM.enc)),.d (.b x.iA),.d (.b x.fB),.d (.i .i64 x.bV.aR),.d (.s x.bV.fName),.d (.sl (x.bV.fArgs.map ay.enc)),.d (.sl (x.aQ.map aN.enc))]
theorem aH.uz(x:aH): .agg (x.enc.map .d)=x.v:=by
 simp only[aH.aj,ay.aj,List.map_cons,List.map_nil,List.cons_append,List.nil_append,List.map_append]
theorem aH.cZ(x:aH):x.enc.length=12:=by
 simp only[aH.aj,ay.cZ,List.length_append,List.length_cons,List.length_nil]
def aH.sz(x:aH):Nat:=bF x.enc
theorem aH.cK(x:aH):bF x.enc=x.sz:=rfl
structure dD where
 fName:List UInt8
 fType:ay
def dD.enc(x:dD):List D:=[.s x.fName]++(x.fType.enc)
theorem dD.aj(x:dD):x.enc=[.s x.fName]++(x.fType.enc):=rfl
theorem dD.eta(x:dD):dD.mk x.fName x.fType=x:=rfl
theorem dD.ext'{x y:dD}(h0:x.fName=y.fName)(h1:x.fType=y.fType):x=y:=by
 cases x;cases y;simp_all
abbrev dD.v(x:dD):V:=.agg [.d (.s x.fName),.d (.i .i64 x.fType.aR),.d (.s x.fType.fName),.d (.sl (x.fType.fArgs.map ay.enc))]
theorem dD.uz(x:dD): .agg (x.enc.map .d)=x.v:=by
 simp only[dD.aj,ay.aj,List.map_cons,List.map_nil,List.cons_append,List.nil_append,List.map_append]
theorem dD.cZ(x:dD):x.enc.length=4:=by
 simp only[dD.aj,ay.cZ,List.length_append,List.length_cons,List.length_nil]
def dD.sz(x:dD):Nat:=bF x.enc
theorem dD.cK(x:dD):bF x.enc=x.sz:=rfl
structure bA where
 fName:List UInt8
 aO:List (List UInt8)
 dO:List aM
 bS:List dD
 dB:ay
 fBody:aC
def bA.enc(x:bA):List D:=[.s x.fName,.sl (x.aO.map encS),.sl (x.dO.map aM.enc),.sl (x.bS.map dD.enc)]++(x.dB.enc++(x.fBody.enc))
theorem bA.aj(x:bA):x.enc=[.s x.fName,.sl (x.aO.map encS),.sl (x.dO.map aM.enc),.sl (x.bS.map dD.enc)]++(x.dB.enc++(x.fBody.enc)):=rfl
theorem bA.eta(x:bA):bA.mk x.fName x.aO x.dO x.bS x.dB x.fBody=x:=rfl
theorem bA.ext'{x y:bA}(h0:x.fName=y.fName)(h1:x.aO=y.aO)(h2:x.dO=y.dO)(h3:x.bS=y.bS)(h4:x.dB=y.dB)(h5:x.fBody=y.fBody):x=y:=by
 cases x;cases y;simp_all
abbrev bA.v(x:bA):V:=.agg [.d (.s x.fName),.d (.sl (x.aO.map encS)),.d (.sl (x.dO.map aM.enc)),.d (.sl (x.bS.map dD.enc)),.d (.i .i64 x.dB.aR),.d (.s x.dB.fName),.d (.sl (x.dB.fArgs.map ay.enc)),.d (.i .i64 x.fBody.aR),.d (.s x.fBody.bU),.d (.s x.fBody.fName),.d (.i .i64 x.fBody.fN),.d (.i .i64 x.fBody.fType.aR),.d (.s x.fBody.fType.fName),.d (.sl (x.fBody.fType.fArgs.map ay.enc)),.d (.sl (x.fBody.fArgs.map aC.enc)),.d (.sl (x.fBody.bE.map aZ.enc))]
theorem bA.uz(x:bA): .agg (x.enc.map .d)=x.v:=by
 simp only[bA.aj,aC.aj,ay.aj,List.map_cons,List.map_nil,List.cons_append,List.nil_append,List.map_append]
theorem bA.cZ(x:bA):x.enc.length=16:=by
 simp only[bA.aj,aC.cZ,ay.cZ,List.length_append,List.length_cons,List.length_nil]
def bA.sz(x:bA):Nat:=bF x.enc
theorem bA.cK(x:bA):bF x.enc=x.sz:=rfl
structure aP where
 fName:List UInt8
 iR:List (List UInt8)
 eX:List bG
 bM:List bB
 bZ:List aH
 dK:List bA
def aP.enc(x:aP):List D:=[.s x.fName,.sl (x.iR.map encS),.sl (x.eX.map bG.enc),.sl (x.bM.map bB.enc),.sl (x.bZ.map aH.enc),.sl (x.dK.map bA.enc)]
theorem aP.aj(x:aP):x.enc=[.s x.fName,.sl (x.iR.map encS),.sl (x.eX.map bG.enc),.sl (x.bM.map bB.enc),.sl (x.bZ.map aH.enc),.sl (x.dK.map bA.enc)]:=rfl
theorem aP.eta(x:aP):aP.mk x.fName x.iR x.eX x.bM x.bZ x.dK=x:=rfl
theorem aP.ext'{x y:aP}(h0:x.fName=y.fName)(h1:x.iR=y.iR)(h2:x.eX=y.eX)(h3:x.bM=y.bM)(h4:x.bZ=y.bZ)(h5:x.dK=y.dK):x=y:=by
 cases x;cases y;simp_all
abbrev aP.v(x:aP):V:=.agg [.d (.s x.fName),.d (.sl (x.iR.map encS)),.d (.sl (x.eX.map bG.enc)),.d (.sl (x.bM.map bB.enc)),.d (.sl (x.bZ.map aH.enc)),.d (.sl (x.dK.map bA.enc))]
theorem aP.uz(x:aP): .agg (x.enc.map .d)=x.v:=by
 simp only[aP.aj,List.map_cons,List.map_nil,List.cons_append,List.nil_append,List.map_append]
theorem aP.cZ(x:aP):x.enc.length=6:=by
 simp only[aP.aj,List.length_append,List.length_cons,List.length_nil]
def aP.sz(x:aP):Nat:=bF x.enc
theorem aP.cK(x:aP):bF x.enc=x.sz:=rfl
structure bR where
 bJ:List aP
def bR.enc(x:bR):List D:=[.sl (x.bJ.map aP.enc)]
theorem bR.aj(x:bR):x.enc=[.sl (x.bJ.map aP.enc)]:=rfl
theorem bR.eta(x:bR):bR.mk x.bJ=x:=rfl
theorem bR.ext'{x y:bR}(h0:x.bJ=y.bJ):x=y:=by
 cases x;cases y;simp_all
abbrev bR.v(x:bR):V:=.agg [.d (.sl (x.bJ.map aP.enc))]
theorem bR.uz(x:bR): .agg (x.enc.map .d)=x.v:=by
 simp only[bR.aj,List.map_cons,List.map_nil,List.cons_append,List.nil_append,List.map_append]
theorem bR.cZ(x:bR):x.enc.length=1:=by
 simp only[bR.aj,List.length_append,List.length_cons,List.length_nil]
def bR.sz(x:bR):Nat:=bF x.enc
theorem bR.cK(x:bR):bF x.enc=x.sz:=rfl
structure bH where
 gG:Int
 yG:Int
def bH.enc(x:bH):List D:=[.i .i64 x.gG,.i .i64 x.yG]
theorem bH.aj(x:bH):x.enc=[.i .i64 x.gG,.i .i64 x.yG]:=rfl
theorem bH.eta(x:bH):bH.mk x.gG x.yG=x:=rfl
theorem bH.ext'{x y:bH}(h0:x.gG=y.gG)(h1:x.yG=y.yG):x=y:=by
 cases x;cases y;simp_all
abbrev bH.v(x:bH):V:=.agg [.d (.i .i64 x.gG),.d (.i .i64 x.yG)]
theorem bH.uz(x:bH): .agg (x.enc.map .d)=x.v:=by
 simp only[bH.aj,List.map_cons,List.map_nil,List.cons_append,List.nil_append,List.map_append]
theorem bH.cZ(x:bH):x.enc.length=2:=by
 simp only[bH.aj,List.length_append,List.length_cons,List.length_nil]
def bH.sz(x:bH):Nat:=bF x.enc
theorem bH.cK(x:bH):bF x.enc=x.sz:=rfl
attribute [go_sem] ay.aj dW.aj aM.aj aC.aj aZ.aj au.aj aK.aj bG.aj aJ.aj bB.aj aN.aj aH.aj dD.aj bA.aj aP.aj bR.aj bH.aj encS encI
def Ud:List dW->List UInt8->Option ay
 |[],_=>none
 |b::bs,v=>if b.fVar=v then some b.fType else Ud bs v
mutual
noncomputable def Aq(s:List dW):ay->ay->Option (List dW)
 | .mk k n a,t=>
   if k=1 then
    match Ud s n with
    |some u=>if dec (u=t)=true then some s else none
    |none=>some (s++[⟨n,t⟩])
   else if k=t.aR/\n=t.fName/\a.length=t.fArgs.length then uH s a t.fArgs else none
noncomputable def uH(s:List dW):List ay->List ay->Option (List dW)
 |[],_=>some s
 |_::_,[]=>none
 |p::ps,t::ts=>
  match Aq s p t with
  |some s'=>uH s' ps ts
  |none=>none
end
mutual
def ay.cnt:ay->Nat
 | .mk _ _ a=>1+ay.fU a
def ay.fU:List ay->Nat
 |[]=>0
 |t::ts=>t.cnt+ay.fU ts
end
theorem ay.Ar(t:ay):t.cnt=1+ay.fU t.fArgs:=by cases t;rw[ay.cnt];rfl
mutual
theorem qw:∀t:ay,t.cnt<=1+t.sz
 | .mk k n a=>by
   have h:=vE a;rw[ay.cnt]
   have e:(ay.mk k n a).sz=n.length+(a.length+aI (a.map ay.enc)):=by
    simp only[ay.sz,ay.aj,bF,D.sz,List.length_map,ay.fName,ay.fArgs,Nat.add_zero,Nat.zero_add]
   omega
theorem vE:∀ts:List ay,ay.fU ts<=ts.length+aI (ts.map ay.enc)
 |[]=>by simp[ay.fU]
 |t::ts=>by
  have h1:=qw t;have h2:=vE ts;rw[ay.fU,List.length_cons,List.map_cons,aI,ay.cK];omega
end
mutual
theorem Wi:∀(p:ay)(s:List dW)(t:ay)(s':List dW),Aq s p t=some s'->s'.length<=s.length+p.cnt
 | .mk k n a,s,t,s',h=>by
   rw[Aq] at h;rw[ay.cnt];split at h
   ·split at h
    ·split at h
     ·cases h;omega
     ·cases h
    ·cases h;simp
   ·split at h
    ·have:=Kj a s t.fArgs s' h;omega
    ·cases h
theorem Kj:∀(ps:List ay)(s:List dW)(ts:List ay)(s':List dW),uH s ps ts=some s'->s'.length<=s.length+ay.fU ps
 |[],s,ts,s',h=>by rw[uH] at h;cases h;omega
 |p::ps,s,[],s',h=>by rw[uH] at h;cases h
 |p::ps,s,t::ts,s',h=>by
  rw[uH] at h;rw[ay.fU]
  cases hm:Aq s p t with
  |none=>rw[hm] at h;cases h
  |some s1=>
   rw[hm] at h;have h1:=Wi p s t s1 hm;have h2:=Kj ps s1 ts s' h;omega
end
def Small(s:List dW):Prop:=∀b∈s,b.fType.sz<=4194304
mutual
theorem Qw:∀(p:ay)(s:List dW)(t:ay)(s':List dW),t.sz<=4194304->Small s->Aq s p t=some s'->Small s'
 | .mk k n a,s,t,s',ht,hs,h=>by
   rw[Aq] at h;split at h
   ·split at h
    ·split at h
     ·cases h;exact hs
     ·cases h
    ·cases h;intro b hb;rcases List.mem_append.1 hb with hb|hb
     ·exact hs b hb
     ·simp at hb;subst hb;exact ht
   ·split at h
    ·refine FE a s t.fArgs s' ?_ hs h;intro x hx;have h1:=dV (List.mem_map_of_mem (f:=ay.enc) hx)
     have h2:t.sz=t.fName.length+(t.fArgs.length+aI (t.fArgs.map ay.enc)):=by
      simp only[ay.sz,ay.aj,bF,bL,D.sz,List.length_map,Nat.add_zero,Nat.zero_add]
     rw[ay.cK] at h1;omega
    ·cases h
theorem FE:∀(ps:List ay)(s:List dW)(ts:List ay)(s':List dW),(∀t∈ts,t.sz<=4194304)->Small s->uH s ps ts=some s'->Small s'
 |[],s,ts,s',ht,hs,h=>by rw[uH] at h;cases h;exact hs
 |p::ps,s,[],s',ht,hs,h=>by rw[uH] at h;cases h
 |p::ps,s,t::ts,s',ht,hs,h=>by
  rw[uH] at h
  cases hm:Aq s p t with
  |none=>rw[hm] at h;cases h
  |some s1=>
   rw[hm] at h;exact FE ps s1 ts s' (fun x hx=>ht x (by simp[hx])) (Qw p s t s1 (ht t (by simp)) hs hm) h
end
end Go.Ab
namespace Go.Proofs.YtfhpfkaeldgcmaaGreat.Fa
open Go Go.Ab
abbrev fE(t c b:Nat)(z:List C):Prop:=prog.cellsOf t=c/\prog.bytesOf t=b/\(prog.info? t).isSome=true/\iK prog t=some z
theorem fF{t c b:Nat}{z:List C}(h1:prog.cellsOf t=c:=by kernel_rfl)(h2:prog.bytesOf t=b:=by kernel_rfl)(h3:(prog.info? t).isSome=true:=by kernel_rfl)(h4:iK prog t=some z:=by kernel_rfl):fE t c b z:=⟨h1,h2,h3,h4⟩
theorem ty1:fE 1 1 8 [.d (.o .nilFunc)]:=fF
theorem ty2:fE 2 1 8 [.d (.i .i64 0)]:=fF
theorem ty3:fE 3 1 8 [.d (.i .i64 0)]:=fF
theorem ty4:fE 4 1 1 [.d (.b false)]:=fF
theorem ajc:zeroV prog 4=some (.bool false):=by kernel_rfl
theorem ty5:fE 5 1 1 [.d (.i .u8 0)]:=fF
theorem ty9:fE 9 1 16 [.d (.s [])]:=fF
theorem akB:fE 12 1 8 [.d (.i .u64 0)]:=fF
theorem akC:fE 20 1 16 [.d (.o .nilIface)]:=fF
theorem akD:fE 21 1 4 [.d (.i .i32 0)]:=fF
theorem akE:fE 22 1 24 [.bI []]:=fF
theorem akF:fE 23 1 8 [.d (.o .nilFunc)]:=fF
theorem akG:fE 24 1 24 [.bI []]:=fF
theorem akH:fE 25 1 24 [.bI []]:=fF
theorem akI:fE 26 1 24 [.bI []]:=fF
theorem akJ:fE 28 1 8 [.d (.o .nilFunc)]:=fF
theorem akK:fE 29 1 24 [.bI []]:=fF
theorem akL:fE 34 1 8 [.d (.o .nilFunc)]:=fF
theorem akM:fE 35 1 24 [.bI []]:=fF
theorem akN:fE 36 1 8 [.d (.o .nilFunc)]:=fF
theorem akO:fE 37 1 8 [.d (.o .nilFunc)]:=fF
theorem akP:fE 38 1 24 [.bI []]:=fF
theorem akQ:fE 39 1 24 [.bI []]:=fF
theorem akR:fE 41 3 48 [.d (.i .i64 0),.d (.s []),.bI []]:=fF
theorem akS:fE 42 1 24 [.bI []]:=fF
theorem akT:fE 43 1 24 [.bI []]:=fF
theorem akU:fE 44 12 192 [.d (.s []),.bI [],.d (.i .i64 0),.d (.s []),.bI [],.bI [],.d (.b false),.d (.b false),.d (.i .i64 0),.d (.s []),.bI [],.bI []]:=fF
theorem akV:fE 45 12 192 [.d (.s []),.bI [],.d (.i .i64 0),.d (.s []),.bI [],.bI [],.d (.b false),.d (.b false),.d (.i .i64 0),.d (.s []),.bI [],.bI []]:=fF
theorem akW:fE 48 2 16 [.d (.i .i64 0),.d (.i .i64 0)]:=fF
theorem akX:fE 49 2 16 [.d (.i .i64 0),.d (.i .i64 0)]:=fF
theorem akY:fE 51 1 8 [.d (.o .nilFunc)]:=fF
theorem akZ:fE 52 1 24 [.bI []]:=fF
theorem ak0:fE 53 5 72 [.d (.s []),.bI [],.d (.b false),.d (.b false),.bI []]:=fF
theorem ak1:fE 54 5 72 [.d (.s []),.bI [],.d (.b false),.d (.b false),.bI []]:=fF
theorem ak2:fE 56 1 8 [.d (.o .nilFunc)]:=fF
theorem ak3:fE 57 1 24 [.bI []]:=fF
theorem ak4:fE 58 3 64 [.d (.s []),.bI [],.bI []]:=fF
theorem ak5:fE 59 3 64 [.d (.s []),.bI [],.bI []]:=fF
theorem ak6:fE 63 2 40 [.d (.s []),.bI []]:=fF
theorem ak7:fE 65 1 8 [.d (.o .nilFunc)]:=fF
theorem ak8:fE 66 1 8 [.d (.o .nilFunc)]:=fF
theorem ak9:fE 67 1 8 [.d (.o (.pointer none))]:=fF
theorem ala:fE 68 1 8 [.d (.o .nilFunc)]:=fF
theorem alb:fE 69 1 8 [.d (.o .nilFunc)]:=fF
theorem alc:fE 70 1 8 [.d (.o .nilFunc)]:=fF
theorem ald:fE 71 1 24 [.bI []]:=fF
theorem ale:fE 72 1 24 [.bI []]:=fF
theorem alf:fE 73 1 24 [.bI []]:=fF
theorem alg:fE 74 1 24 [.bI []]:=fF
theorem alh:fE 75 1 24 [.bI []]:=fF
theorem ali:fE 77 6 136 [.d (.s []),.bI [],.bI [],.bI [],.bI [],.bI []]:=fF
theorem alj:fE 80 1 24 [.bI []]:=fF
theorem alk:fE 82 1 8 [.d (.o .nilFunc)]:=fF
theorem alm:fE 83 1 8 [.d (.o .nilFunc)]:=fF
theorem aln:fE 84 1 8 [.d (.o .nilFunc)]:=fF
theorem alo:fE 91 1 8 [.d (.o .nilFunc)]:=fF
theorem alp:fE 92 1 8 [.d (.o .nilFunc)]:=fF
theorem alq:fE 95 1 8 [.d (.o .nilFunc)]:=fF
theorem alr:fE 96 2 48 [.bI [],.bI []]:=fF
theorem als:fE 97 2 48 [.bI [],.bI []]:=fF
theorem ajd:fE 101 3 40 [.bI [],.d (.i .i64 0),.d (.i .i64 0)]:=fF
theorem aje:fE 106 1 8 [.d (.o .nilFunc)]:=fF
theorem ajf:fE 111 1 24 [.bI []]:=fF
theorem ajg:fE 112 1 24 [.bI []]:=fF
theorem ajh:fE 113 1 24 [.bI []]:=fF
theorem aji:fE 115 9 144 [.d (.i .i64 0),.d (.s []),.d (.s []),.d (.i .i64 0),.d (.i .i64 0),.d (.s []),.bI [],.bI [],.bI []]:=fF
theorem ajj:fE 117 16 280 [.d (.s []),.bI [],.bI [],.bI [],.d (.i .i64 0),.d (.s []),.bI [],.d (.i .i64 0),.d (.s []),.d (.s []),.d (.i .i64 0),.d (.i .i64 0),.d (.s []),.bI [],.bI [],.bI []]:=fF
theorem ajk:fE 121 1 8 [.d (.o (.map none))]:=fF
theorem ajl:fE 128 11 184 [.d (.s []),.bI [],.d (.i .i64 0),.d (.s []),.d (.s []),.d (.i .i64 0),.d (.i .i64 0),.d (.s []),.bI [],.bI [],.bI []]:=fF
theorem ajm:fE 131 16 264 [.d (.s []),.bI [],.d (.i .i64 0),.d (.s []),.bI [],.d (.b false),.bI [],.d (.i .i64 0),.d (.s []),.d (.s []),.d (.i .i64 0),.d (.i .i64 0),.d (.s []),.bI [],.bI [],.bI []]:=fF
theorem ajn:fE 134 4 96 [.bI [],.bI [],.bI [],.bI []]:=fF
theorem ajo:fE 151 1 8 [.d (.o .nilFunc)]:=fF
theorem ajp:fE 154 1 8 [.d (.o .nilFunc)]:=fF
theorem ajq:fE 164 4 64 [.d (.s []),.d (.i .i64 0),.d (.s []),.bI []]:=fF
theorem ajr:fE 167 11 184 [.d (.s []),.bI [],.d (.i .i64 0),.d (.s []),.d (.s []),.d (.i .i64 0),.d (.i .i64 0),.d (.s []),.bI [],.bI [],.bI []]:=fF
theorem ajs:fE 179 4 64 [.d (.s []),.d (.i .i64 0),.d (.s []),.bI []]:=fF
theorem ajt:fE 180 1 8 [.d (.o .nilFunc)]:=fF
theorem aju:fE 183 1 8 [.d (.o .nilFunc)]:=fF
theorem ajv:fE 186 1 8 [.d (.o .nilFunc)]:=fF
theorem ajw:fE 194 1 8 [.d (.o .nilFunc)]:=fF
theorem ajx:fE 200 1 24 [.bI []]:=fF
theorem ajy:fE 202 2 40 [.d (.s []),.bI []]:=fF
theorem ajz:fE 207 1 8 [.d (.o .nilFunc)]:=fF
theorem ajA:fE 210 1 8 [.d (.o .nilFunc)]:=fF
theorem ajB:fE 213 1 8 [.d (.o .nilFunc)]:=fF
theorem ajC:fE 219 1 8 [.d (.o (.pointer none))]:=fF
theorem ajD:fE 221 5 48 [.d (.s []),.d (.i .i64 0),.d (.i .i64 0),.d (.i .i64 0),.d (.b false)]:=fF
theorem ajE:fE 229 1 8 [.d (.o (.pointer none))]:=fF
theorem ajF:fE 236 1 24 [.bI []]:=fF
theorem laidOut:laidOutB prog=true:=by kernel_rfl
theorem own:ownKnob prog.godebug=none:=by kernel_rfl
attribute [go_sem] ty1 underlying1 ty2 underlying2 ty3 underlying3 ty4 underlying4 ajc ty5 underlying5 ty9 underlying9 akB underlying12 akC underlying20 akD underlying21 akE underlying22 akF underlying23 akG underlying24 akH underlying25 akI underlying26 akJ underlying28 akK underlying29 akL underlying34 akM underlying35 akN underlying36 akO underlying37 akP underlying38 akQ underlying39 akR underlying41 akS underlying42 akT underlying43 akU underlying44 akV underlying45 akW underlying48 akX underlying49 akY underlying51 akZ underlying52 ak0 underlying53 ak1 underlying54 ak2 underlying56 ak3 underlying57 ak4 underlying58 ak5 underlying59 ak6 underlying63 ak7 underlying65 ak8 underlying66 ak9 underlying67 ala underlying68 alb underlying69 alc underlying70 ald underlying71 ale underlying72 alf underlying73 alg underlying74 alh underlying75 ali underlying77 alj underlying80 alk underlying82 alm underlying83 aln underlying84 alo underlying91 alp underlying92 alq underlying95 alr underlying96 als underlying97 ajd underlying101 aje underlying106 ajf underlying111 ajg underlying112 ajh underlying113 aji underlying115 ajj underlying117 ajk underlying121 ajl underlying128 ajm underlying131 ajn underlying134 ajo underlying151 ajp underlying154 ajq underlying164 ajr underlying167 ajs underlying179 ajt underlying180 aju underlying183 ajv underlying186 ajw underlying194 ajx underlying200 ajy underlying202 ajz underlying207 ajA underlying210 ajB underlying213 ajC underlying219 ajD underlying221 ajE underlying229 ajF underlying236
end Go.Proofs.YtfhpfkaeldgcmaaGreat.Fa
namespace Go.Ab
mutual
def aC.cnt:aC->Nat
 | .mk _ _ _ _ _ a b=>1+(aC.fU a+aZ.fU b)
def aC.fU:List aC->Nat
 |[]=>0
 |x::xs=>x.cnt+aC.fU xs
def aZ.cnt:aZ->Nat
 | .mk _ _ b=>b.cnt
def aZ.fU:List aZ->Nat
 |[]=>0
 |x::xs=>x.cnt+aZ.fU xs
end
theorem aC.Ar(x:aC):x.cnt=1+(aC.fU x.fArgs+aZ.fU x.bE):=by cases x;rw[aC.cnt];rfl
theorem aZ.Ar(x:aZ):x.cnt=x.fBody.cnt:=by cases x;rw[aZ.cnt];rfl
theorem aC.qK{xs:List aC}{i:Nat}(hi:i<xs.length):aC.fU (xs.drop i)=xs[i].cnt+aC.fU (xs.drop (i+1)):=by rw[List.drop_eq_getElem_cons hi,aC.fU]
theorem aZ.qK{xs:List aZ}{i:Nat}(hi:i<xs.length):aZ.fU (xs.drop i)=xs[i].fBody.cnt+aZ.fU (xs.drop (i+1)):=by rw[List.drop_eq_getElem_cons hi,aZ.fU,aZ.Ar]
theorem aC.IY(x:aC):x.fArgs.length+aI (x.fArgs.map aC.enc)<=x.sz/\x.bE.length+aI (x.bE.map aZ.enc)<=x.sz:=by
 simp only[aC.sz,aC.aj,bF,bL,D.sz,List.length_map];omega
theorem aZ.Ue(x:aZ):x.fBody.sz<=x.sz:=by
 simp only[aZ.sz,aZ.aj,aC.sz,bF,bL,D.sz,List.length_map];omega
mutual
theorem aC.qw:∀x:aC,x.cnt<=1+x.sz
 | .mk k t n m ty a b=>by
   have h1:=aC.vE a;have h2:=aZ.vE b;rw[aC.cnt];simp only[aC.sz,aC.aj,bF,bL,D.sz,List.length_map,aC.fArgs,aC.bE];omega
theorem aC.vE:∀xs:List aC,aC.fU xs<=xs.length+aI (xs.map aC.enc)
 |[]=>by simp[aC.fU]
 |x::xs=>by
  have h1:=aC.qw x;have h2:=aC.vE xs;rw[aC.fU,List.length_cons,List.map_cons,aI,aC.cK];omega
theorem aZ.qw:∀x:aZ,x.cnt<=1+x.sz
 | .mk c v b=>by
   have h1:=aC.qw b;have h2:=aZ.Ue (.mk c v b);rw[aZ.cnt];simp only[aZ.fBody] at h2;omega
theorem aZ.vE:∀xs:List aZ,aZ.fU xs<=xs.length+aI (xs.map aZ.enc)
 |[]=>by simp[aZ.fU]
 |x::xs=>by
  have h1:=aZ.qw x;have h2:=aZ.vE xs;rw[aZ.fU,List.length_cons,List.map_cons,aI,aZ.cK];omega
end
end Go.Ab