/-
  SEVERAL TEXTS IN ONE (merged by program): contracts and models, each with its own heading.
-/
import Derived.Test.YtnmjbebcebbmfaaGreatDoorPartDnbB
import Derived.Carry
import Derived.WideKeyArgs
import Derived.ProofKit
import Derived.OpenShut
import Derived.WalkKit
import Derived.Test.YtnmjbebcebbmfaaGreatDoorChecked
import Derived.Eval
import Derived.KernelRfl
open Go.Proofs Go.Proofs.Tryz
theorem Go.Ab.zmx:Go.Proofs.Tryz.prog.follows .mixedOrders=true:=Go.Proofs.Tryz.checked.mixed
open Go Go.Ab in
theorem Go.Ab.zcx{N:Nat}{S:Store}{f:FuncId}{fn:Func}{c:Code}{args:List V}{post:V->Store->Prop}(rs:List ResultVar)(hf:Tryz.prog.funcs[f]? =some fn)(hN:fn.ntmps=N)(h:CW Tryz.prog N c (PS Tryz.prog rs post) ⟨mV (args.map (V.up 1)) 0,[]::S⟩)(hb:fn.body=some c:=by exact rfl)(hn:(fn.name== "runtime.NumGoroutine")=false:=by exact rfl)(hr:fn.results.toList=rs:=by exact rfl)(hl:Nat.ble args.length N=true:=by exact rfl)(hok:codeOk N c=true:=by exact rfl):bS Tryz.prog f args S post:=aB (rs:=rs) zmx hf hN hb hn hr hl hok h
set_option linter.unusedSimpArgs false
set_option linter.unusedVariables false
set_option maxRecDepth 4000
namespace Go.Ab
section
variable {P:Program} {S S':Store} {N:Nat} {s:St}
theorem aW{α:Type}{fr:List α}{S:List (List α)}{l j:Nat}:bC (fr::S) (1+l,j)=bC S (l,j):=by rw[eq,dG]
theorem dn{α:Type}{fr:List α}{S:List (List α)}{l j:Nat}{x:α}:bA (fr::S) (1+l,j) x=fr::bA S (l,j) x:=by rw[eq,bA]
theorem aqO{n l j:Nat}:EN n (l,j)=(n+l,j):=rfl
theorem aeL{l j:Nat}{es:List (List D)}:C.ret (.bJ (1+l,j) es)=some (.bJ (l,j) es):=by
 rw[eq];show C.down 1 (.bJ (l+1,j) es)=_;simp[C.down]
theorem ret_tsl_0{j:Nat}{es:List (List D)}:C.ret (.bJ (0,j) es)=some (.d (.sl es)):=rfl
theorem asR{x:D}:C.ret (.d x)=some (.d x):=rfl
theorem aoy:C.ret .any=some .any:=rfl
theorem aoz{es:List (List D)}:C.ret (.bH es)=some (.bH es):=rfl
theorem aoA{n:Nat}{es:List (List D)}:C.ret (.mE n es)=some (.mE n es):=rfl
theorem ak2{cs:List D}:C.ret (.om cs)=some (.om cs):=rfl
theorem aoB{l j off:Nat}:C.ret (.ptr (1+l,j) off)=some (.ptr (l,j) off):=by
 rw[eq];show C.down 1 (.ptr (l+1,j) off)=_;simp[C.down]
theorem aoC{j:Nat}{es es':List (List D)}{k:Key}:C.qj j es (.bJ k es')=.bJ k es':=rfl
theorem asS{x:D}:C.vw (.d x)=.d x:=rfl
theorem aoD:C.vw .any=.any:=rfl
theorem aoE{k:Key}{off:Nat}:C.vw (.ptr k off)=.ptr k off:=rfl
theorem aqP{f:Nat}{caps:List (Key×Nat)}:C.vw (.fn f caps)=.fn f caps:=rfl
theorem aoF{k:Key}:C.vw (.jO k)=.jO k:=rfl
theorem ak3{cs:List D}:C.vw (.om cs)=.om cs:=rfl
theorem asT{j:Nat}{es:List (List D)}{x:D}:C.qj j es (.d x)=.d x:=rfl
theorem aoG{j:Nat}{es:List (List D)}:C.qj j es .any=.any:=rfl
theorem aoH{j:Nat}{es es':List (List D)}:C.qj j es (.bH es')=.bH es':=rfl
theorem aoI{j:Nat}{es:List (List D)}{k:Key}{off:Nat}:C.qj j es (.ptr k off)=.ptr k off:=rfl
theorem aqQ{j:Nat}{es:List (List D)}{f:Nat}{caps:List (Key×Nat)}:C.qj j es (.fn f caps)=.fn f caps:=rfl
theorem aoJ{j n:Nat}{es es':List (List D)}:C.qj j es (.mE n es')=.mE n es':=rfl
theorem aoK{n:Nat}{es:List (List D)}:C.vw (.mE n es)=.mE n es:=rfl
theorem ak4{j:Nat}{es:List (List D)}{cs:List D}:C.qj j es (.om cs)=.om cs:=rfl
theorem aoL{j i:Nat}{es:List (List D)}:C.qj j es (.jO (0,i))=if i=j then .d (.sl es) else .jO (0,i):=rfl
theorem bS.ak5{f:FuncId}(i:Nat){es:List (List D)}{bB:Nat}{args:List V}{post post':V->Store->Prop}(hi:args[i]? =some (.c (.bH es)))(hes:∀e∈es,e.length=bB)
 (h:bS P f ((args.map (V.up 1)).set i (.c (.bJ (0,0) es))) ([.tok bB es]::S) post)
 (hp:∀r fr S',post r (fr::S')->∃r',r.ret=some r'/\post' r' S'):bS P f args S post':=by
 refine⟨h.1,fun w σ β vs hS hargs=> ?_⟩;obtain⟨v,hv0,⟨hd,ad,n,hval⟩,hone⟩:=hargs.2 i _ hi
 ·have hn:n=es.length:=by rw[hval] at hd;cases hd<;>rfl
  have hg:Grow w σ w σ:=Grow.refl hS.live
  obtain⟨hS',hk,hst⟩:=hS.up1.push (o:=.tok bB es) (h:=v) hg rfl ⟨hd,hes,ad,n,by rw[hval,hn],gA,.inl hn⟩ (fun b hb=>by
   rw[hval,hn] at hb
   cases ad<;>simp[owns,blk] at hb)
  have hargs':pO w σ ([.tok bB es]::S) ([v]::β) ((args.map (V.up 1)).set i (.c (.bJ (0,0) es))) vs:=by
   refine⟨by have:=hargs.1;simpa using this,fun j x hx=> ?_⟩;rw[eJ] at hx;by_cases e:i=j
   ·subst e;rw[if_pos rfl] at hx;split at hx
    ·cases hx;refine⟨v,hv0,⟨hd,.tok bB es,rfl,fun a b e=> ?_⟩,hone⟩;obtain⟨_,rfl⟩:=mM (lab:=none) e;exact⟨ax _,fun _=>rfl⟩
    ·cases hx
   ·rw[if_neg e,bE] at hx
    cases ha:args[j]? with
    |none=>rw[ha] at hx;cases hx
    |some y=>
     rw[ha] at hx;cases hx;obtain⟨u,hu,hr⟩:=hargs.2 j y ha;exact⟨u,hu,NY (S:=[.tok bB es]::S) (β:=[v]::β) 1 hr⟩
  refine(h.2 w σ ([v]::β) vs hS' hargs').mono fun e w' ⟨v',r,S1,σ',β',he,hS1,hk1,Ev,hr1,hpost⟩=> ?_
  have hO:∀b,Own ([.tok bB es]::S) ([v]::β) b->Own S β b:=by
   rintro b ⟨⟨l,j⟩,o,hv,h1,h2,h3⟩
   cases l with
   |zero=>
    rw[bM] at h1 h2
    cases j with
    |zero=>
     cases h1;cases h2;rw[hval,hn] at h3;cases ad<;>simp[owns,blk] at h3
    |succ j=>simp at h1
   |succ l=>rw[dG] at h1 h2;exact⟨(l,j),o,hv,h1,h2,h3⟩
  cases S1 with
  |nil=>
   obtain⟨o',h1,_⟩:=hk1 (0,0) _ rfl;rw[rH] at h1;cases h1
  |cons fr S1=>
   cases β' with
   |nil=>have:=hS1.shape.1;simp at this
   |cons bo bΩ=>
    obtain⟨r',hr',hp'⟩:=hp r fr S1 hpost;refine⟨v',r',S1,σ',bΩ,he,hS1.NZ,hk1.drop 1,⟨Ev.size,Ev.os,Ev.output,fun b hb ho=>Ev.far b hb (fun x=>ho (hO b x)),Ev.near,fun b hb=>(Ev.own b (Aq hb)).imp (hO b) id⟩,Yj hr' hr1,hp'⟩
end
attribute [go_sem] aW dn aqO aeL ret_tsl_0 asR aoy aoz ak2 aoB aoC asS aoD aoE aqP aoF ak3 asT aoG aoH aoI aqQ ak4 aoL aoA aoJ aoK
section
variable {P:Program} {S S':Store} {N:Nat} {s:St}
theorem Mh(S:Store)(β:Hs)(k:Key):Keep S β (bA S k .dead) β:=by
 intro k' o ho;by_cases e:k=k'
 ·subst e;exact⟨.dead,dA _ _ _ _ ho,.inl rfl⟩
 ·exact⟨o,by rw[fV _ _ _ _ e];exact ho,nZ.refl _ _⟩
theorem DW{k k':Key}{o:Obj}(h:bC (bA S k .dead) k'=some o):(k=k'/\o=.dead)\/bC S k'=some o:=by
 by_cases e:k=k'
 ·subst e
  cases hg:bC S k with
  |none=>
   have:∀(S:Store)(k:Key),bC S k=none->bA S k .dead=S:=by
    intro S
    induction S with
    |nil=>intro k _;rfl
    |cons fr S ih=>
     rintro⟨l,j⟩ h
     cases l with
     |zero=>
      rw[bM] at h;rw[bA,List.set_eq_of_length_le (List.getElem?_eq_none_iff.1 h)]
     |succ l=>rw[dG] at h;rw[bA,ih _ h]
   rw[this S k hg,hg] at h;cases h
  |some y=>
   rw[dA _ _ _ _ hg] at h;cases h;exact .inl ⟨rfl,rfl⟩
 ·rw[fV _ _ _ _ e] at h;exact .inr h
theorem YO(x:Obj):∀(S:Store)(k:Key),(bA S k x).length=S.length
 |[],k=>rfl
 |fr::S,(0,j)=>by rw[bA];simp
 |fr::S,(l+1,j)=>by rw[bA,aa,YO x S,aa]
theorem acK(x:Obj):∀(S:Store)(k:Key)(l:Nat)(fr:List Obj),(bA S k x)[l]? =some fr->∃Ie,S[l]? =some Ie/\Ie.length=fr.length
 |[],k,l,fr,h=>by simp[bA] at h
 |f::S,(0,j),0,fr,h=>by rw[bA] at h;simp at h;subst h;exact⟨f,rfl,gL⟩
 |f::S,(0,j),l+1,fr,h=>by rw[bA] at h;exact⟨fr,by simpa using h,rfl⟩
 |f::S,(i+1,j),0,fr,h=>by rw[bA] at h;exact⟨fr,by simpa using h,rfl⟩
 |f::S,(i+1,j),l+1,fr,h=>by
  rw[bA] at h;simpa using acK x S (i,j) l fr (by simpa using h)
theorem ak6{w:World}{σ:Nat->Nat}{β:Hs}(k:Key)(hS:fC w σ S β):fC w σ (bA S k .dead) β:=by
 have hn:eH w σ w σ:=(Grow.refl hS.live).near;refine⟨fun k' o ho=> ?_,fun k1 k2 o1 o2 h1 h2 b e1 e2 e3 e4 e5 e6=> ?_,⟨by rw[YO];exact hS.shape.1,fun l fr hl=> ?_⟩,hS.live,hS.vH⟩
 ·rcases DW ho with⟨rfl,rfl⟩|ho'
  ·cases hg:bC S k with
   |none=>
    exfalso;have:=Mh S β k;rcases DW (S:=S) (k:=k) (k':=k) ho with⟨_,_⟩|h
    ·
     have hne:bC (bA S k .dead) k=none:=by
      have:∀(S:Store)(k:Key),bC S k=none->bC (bA S k Obj.dead) k=none:=by
       intro S
       induction S with
       |nil=>intro k _;rw[bA,rH]
       |cons fr S ih=>
        rintro⟨l,j⟩ h
        cases l with
        |zero=>
         rw[bM] at h;rw[bA,bM,List.set_eq_of_length_le (List.getElem?_eq_none_iff.1 h)];exact h
        |succ l=>rw[dG] at h;rw[bA,dG];exact ih _ h
      exact this S k hg
     rw[hne] at ho;cases ho
    ·rw[hg] at h;cases h
   |some y=>
    obtain⟨h,hh,_⟩:=hS.obj k y hg;exact⟨h,hh,trivial⟩
  ·obtain⟨h,hh,hr⟩:=hS.obj k' o ho';exact⟨h,hh,hr.mono hn ((Mh S β k).drop k'.1) fun b _=>⟨rfl,rfl⟩⟩
 ·rcases DW e1 with⟨_,rfl⟩|OT
  ·cases e3
  ·rcases DW e4 with⟨_,rfl⟩|e4'
   ·cases e6
   ·exact hS.apart k1 k2 o1 o2 h1 h2 b OT e2 e3 e4' e5 e6
 ·obtain⟨Ie,h1,h2⟩:=acK _ S k l fr hl;obtain⟨gr,h3,h4⟩:=hS.shape.2 l Ie h1;exact⟨gr,h3,gA⟩
def Less(r r':V):Prop:=∀w σ S β v,dR w σ S β r v->dR w σ S β r' v
theorem Less.refl(r:V):Less r r:=fun _ _ _ _ _ h=>h
theorem bS.kill{f:FuncId}{args:List V}{post post':V->Store->Prop}(k:Key)(h:bS P f args S post)(hp:∀r S',post r S'->∃r',Less r r'/\(post' r' S'\/post' r' (bA S' k .dead))):bS P f args S post':=by
 refine⟨h.1,fun w σ β vs hS hv=>(h.2 w σ β vs hS hv).mono fun e w' ⟨v,r,S',σ',β',h1,h2,h3,h4,h5,h6⟩=> ?_⟩;obtain⟨r',hl,hp|hp⟩:=hp r S' h6
 ·exact⟨v,r',S',σ',β',h1,h2,h3,h4,hl _ _ _ _ _ h5,hp⟩
 ·have hkeep:=Mh S' β' k;refine⟨v,r',bA S' k .dead,σ',β',h1,ak6 k h2,h3.trans hkeep,⟨h4.size,h4.os,h4.output,h4.far,h4.near,fun b hb=> ?_⟩,hl _ _ _ _ _ (h5.mono (Grow.refl h2.live).near hkeep),hp⟩;obtain⟨k',o,hv,e1,e2,e3⟩:=hb;rcases DW e1 with⟨_,rfl⟩|OT
  ·cases e3
  ·exact h4.own b ⟨k',o,hv,OT,e2,e3⟩
theorem cu{x y:Obj}:∀(S:Store)(k:Key),bA (bA S k x) k y=bA S k y
 |[],k=>rfl
 |fr::S,(0,j)=>by rw[bA,bA,bA];simp
 |fr::S,(l+1,j)=>by rw[bA,bA,bA,cu S]
theorem DX{x:Obj}:∀(S:Store)(k:Key),bC S k=some x->bA S k x=S
 |[],k,_=>rfl
 |fr::S,(0,j),h=>by
  rw[bM] at h;rw[bA];congr 1
  exact dl fun i=>by
   rw[eJ];split
   ·rename_i e;subst e;obtain⟨h1,h2⟩:=ap.1 h;simp[h1,h2]
   ·rfl
 |fr::S,(l+1,j),h=>by rw[dG] at h;rw[bA,DX S _ h]
def zB:List Bool->List V->List V
 |true::m,v::vs=>v::zB m vs
 |false::m,v::vs=>v.vw::zB m vs
 |[],vs=>vs.map V.vw
 |_,[]=>[]
theorem PU:∀(m:List Bool)(vs:List V),vs.length=(zB m vs).length
 |true::m,v::vs=>by rw[zB,aa,aa,PU m vs]
 |false::m,v::vs=>by rw[zB,aa,aa,PU m vs]
 |[],vs=>by simp[zB]
 |true::m,[]=>rfl
 |false::m,[]=>rfl
theorem Ui:∀(m:List Bool)(vs:List V)(j:Nat)(x y:V),vs[j]? =some x->(zB m vs)[j]? =some y->y=x\/y=x.vw
 |true::m,v::vs,0,x,y,h1,h2=>by rw[zB] at h2;cases h1;cases h2;exact .inl rfl
 |false::m,v::vs,0,x,y,h1,h2=>by rw[zB] at h2;cases h1;cases h2;exact .inr rfl
 |true::m,v::vs,j+1,x,y,h1,h2=>by rw[zB] at h2;exact Ui m vs j x y h1 h2
 |false::m,v::vs,j+1,x,y,h1,h2=>by rw[zB] at h2;exact Ui m vs j x y h1 h2
 |[],vs,j,x,y,h1,h2=>by rw[zB,bE,h1] at h2;cases h2;exact .inr rfl
 |true::m,[],j,x,y,h1,h2=>by simp at h1
 |false::m,[],j,x,y,h1,h2=>by simp at h1
theorem bS.zB(m:List Bool){f:FuncId}{args:List V}{post:V->Store->Prop}(h:bS P f (Go.Ab.zB m args) S post):bS P f args S post:=
 h.weaken (PU m args) fun j x y hx hy w σ β v hr=>by
  rcases Ui m args j x y hx hy with e|e
  ·rw[e];exact hr
  ·rw[e];exact Yu hr
theorem dX(m:List Bool){dr:Option Nat}{f:FuncId}{args:List V}{dst:Option Nat}{K:St->Prop}{r:V}{S1:Store}(hm:anv dr=true)(h:bS P f (zB m args) s.st (fun r' S'=>r'=r/\S'=S1))(hK:K (St.put ⟨s.tm,S1⟩ dst r)):fH P dr f args s dst K:=
 bD hm (h.zB m) hK
end
theorem aD.less{P:Program}{f:FuncId}{args:List V}{r r':V}(h:aD P f args r)(hl:Less r r'):aD P f args r':=
 fun S=>(h S).kill (0,0) fun r1 S' e=>⟨r',by rw[e.1];exact hl,.inl ⟨rfl,e.2⟩⟩
section
variable {P:Program} {S:Store}
def kC(n:Nat)(caps:List (Key×Nat)):List (Key×Nat):=caps.map fun y=>(EN n y.1,y.2)
theorem aeM{n:Nat}:kC n []=[]:=rfl
theorem abt{n l j off:Nat}{caps:List (Key×Nat)}:kC n (((l,j),off)::caps)=((n+l,j),off)::kC n caps:=rfl
theorem Vk{m n:Nat}{caps:List (Key×Nat)}:kC m (kC n caps)=kC (m+n) caps:=by
 unfold kC;rw[ew];refine cQ fun y _=> ?_;simp only[Function.comp,EN,Prod.mk.injEq,and_true];omega
theorem abu{n m g:Nat}{caps:List (Key×Nat)}:C.refs n (.fn g (kC (m+1) caps))=true:=by
 simp only[C.refs,kC,List.all_map,az];intro x _
 have h:0<m+1+x.1.1:=gA
 simp[Function.comp,kR,EN,h]
theorem YP{n:Nat}{caps:List (Key×Nat)}:((kC 1 caps).all fun x=>kR n x.fst)=true:=abu (m:=0) (g:=0)
theorem YQ:∀(F S:Store)(l j:Nat),bC (F++S) (F.length+l,j)=bC S (l,j)
 |[],S,l,j=>by simp
 |fr::F,S,l,j=>by
  rw[ba,aa,show F.length+1+l=(F.length+l)+1 from gA,dG,YQ F S l j]
theorem YR(x:Obj):∀(F S:Store)(l j:Nat),bA (F++S) (F.length+l,j) x=F++bA S (l,j) x
 |[],S,l,j=>by simp
 |fr::F,S,l,j=>by
  rw[ba,aa,show F.length+1+l=(F.length+l)+1 from gA,bA,YR x F S l j,ba]
theorem ahJ{F S:Store}{j:Nat}:bC (F++S) (F.length,j)=bC S (0,j):=YQ F S 0 j
theorem ahK{F S:Store}{j:Nat}{x:Obj}:bA (F++S) (F.length,j) x=F++bA S (0,j) x:=YR x F S 0 j
attribute [go_sem] ahJ ahK aeM abt
def qA(P:Program)(g:Nat)(caps:List (Key×Nat))(S:Store)(xs:List V)(r:V):Prop:=
 ∀F:Store,bS P g (xs++Gp (kC F.length caps)) (F++S) (fun r' S'=>r'=r/\S'=F++S)
theorem qA.push{g:Nat}{caps:List (Key×Nat)}{xs:List V}{r:V}(h:qA P g caps S xs r)(fr:List Obj):qA P g (kC 1 caps) (fr::S) xs r:=fun F=>by
 have:=h (F++[fr]);rw[Vk];simpa using this
theorem qA.Uj{g:Nat}{xs:List V}{r:V}(h:aD P g xs r):qA P g [] S xs r:=fun F=>by
 have:=h (F++S);simpa [kC,Gp] using this
def Kw(P:Program)(g:Nat)(caps:List (Key×Nat)){α X:Type}(st:α->Store)(I:Nat->α->Prop)(f:α->X->α)(xv:X->V)(ok:X->Prop):Prop:=
 ∀n a u,I (n+1) a->ok u->I n (f a u)/\∀F:Store,bS P g (xv u::Gp (kC F.length caps)) (F++st a) (fun r' S'=>r'=.eu []/\S'=F++st (f a u))
theorem Kw.push{g:Nat}{caps:List (Key×Nat)}{α X:Type}{st:α->Store}{I:Nat->α->Prop}{f:α->X->α}{xv:X->V}{ok:X->Prop}(h:Kw P g caps st I f xv ok)(fr:List Obj):
 Kw P g (kC 1 caps) (fun a=>fr::st a) I f xv ok:=fun n a u ha hu=>⟨(h n a u ha hu).1,fun F=>by
 have:=(h n a u ha hu).2 (F++[fr]);rw[Vk]
 simpa using this⟩
theorem uI{N:Nat}{c:Code}{Q:Exit->St->Prop}{tm:List (Nat×V)}{own:List Obj}{Ω:Store}(j i bB:Nat)(es:List (List D))(cs:List C)(hj:own[j]? =some (.box cs))(hi:cs[i]? =some (.bH es))(hes:∀e∈es,e.length=bB)
 (h:AW P N c Q ⟨tm,(own.set j (.box (cs.set i (.bJ (0,own.length) es)))++[.tok bB es])::Ω⟩):AW P N c Q ⟨tm,own::Ω⟩:=by
 refine mO h fun a w σ β hR=> ?_;obtain⟨bo,bΩ,rfl,hlen⟩:=frames hR;have hjl:=(ap.1 hj).1
 have hg0:bC (own::Ω) (0,j)=some (.box cs):=by rw[bM];exact hj
 obtain⟨hb,OQ,hr⟩:=hR.S.obj (0,j) _ hg0;obtain⟨b,cv,ty,rfl,hbc,hσ,hcs⟩:=hr;have hcs:gN w σ (own::Ω) (bo::bΩ) cs cv.toList:=hcs;obtain⟨v,hv,⟨hd,ad,n,hval⟩,hone⟩:=hcs.2 i _ hi
 have hn:n=es.length:=by rw[hval] at hd;cases hd<;>rfl
 have hg:Grow w σ w σ:=Grow.refl hR.S.live
 obtain⟨hS',hk,hst⟩:=hR.S.push (o:=.tok bB es) (h:=v) hg hlen ⟨hd,hes,ad,n,by rw[hval,hn],gA,.inl hn⟩ (fun b hb=>by
  rw[hval,hn] at hb
  cases ad<;>simp[owns,blk] at hb)
 have hk1:bC ((own++[.tok bB es])::Ω) (0,j)=some (.box cs):=lD _ _ _ _ _ hg0;have Lh:bC ((bo++[v])::bΩ) (0,j)=some (.pointer (some ⟨b,0,none⟩)):=lD _ _ _ _ _ OQ;have hko:nZ (.box cs) (some (Value.pointer (some ⟨b,0,none⟩))) (.box (cs.set i (.bJ (0,own.length) es))) (some (Value.pointer (some ⟨b,0,none⟩))):=.inr ⟨⟨_,rfl⟩,rfl⟩
 have hK:Keep ((own++[.tok bB es])::Ω) ((bo++[v])::bΩ) (bA ((own++[.tok bB es])::Ω) (0,j) (.box (cs.set i (.bJ (0,own.length) es)))) (bA ((bo++[v])::bΩ) (0,j) (.pointer (some ⟨b,0,none⟩))):=by
  intro k1 o1 e1;by_cases e:k1=(0,j)
  ·subst e;rw[hk1] at e1;cases e1;exact⟨_,dA _ _ _ _ hk1,by rw[Lh,dA _ _ _ _ Lh];exact hko⟩
  ·exact⟨o1,(fV _ _ _ _ (Ne.symm e)).trans e1,by rw[fV _ _ _ _ (Ne.symm e)];exact .refl _ _⟩
 have hne:(0,own.length)≠(0,j):=fun e=>by injection e with _ e;omega
 obtain⟨hS2,hk2,wG⟩:=hS'.set (w':=w) (σ':=σ) (o':=.box (cs.set i (.bJ (0,own.length) es))) (h':=.pointer (some ⟨b,0,none⟩)) hk1 Lh (ax _) rfl rfl (eH.refl _ _) hS'.live (fun _ _ _=>⟨rfl,rfl⟩) hko
  ⟨b,cv,ty,rfl,hbc,hσ,by
    refine⟨by rw[cW];exact hcs.1,fun m x hm=> ?_⟩;rw[eJ] at hm;by_cases e:i=m
    ·subst e;rw[if_pos rfl] at hm;split at hm
     ·cases hm;refine⟨v,hv,⟨hd,.tok bB es,?_,fun a1 b1 e1=> ?_⟩,hone⟩
      ·show bC (bA _ (0,j) _) (0,own.length)=_;rw[fV _ _ _ _ (Ne.symm hne),dw]
      ·obtain⟨_,rfl⟩:=mM (lab:=none) e1;refine⟨ax _,fun _=> ?_⟩;show bC (bA _ (0,j) _) (0,own.length)=_;rw[fV _ _ _ _ (Ne.symm hne),<-hlen,dw]
     ·cases hm
    ·rw[if_neg e] at hm;obtain⟨u,hu,hc,ho⟩:=hcs.2 m x hm
     exact⟨u,hu,(hc.mono (eH.refl _ _) hk).mono (eH.refl _ _) hK,ho⟩⟩ (fun _ e=>.inl e)
 have est:bA ((own++[.tok bB es])::Ω) (0,j) (.box (cs.set i (.bJ (0,own.length) es)))=(own.set j (.box (cs.set i (.bJ (0,own.length) es)))++[.tok bB es])::Ω:=by
  rw[bA,List.set_append_left _ _ hjl]
 rw[est] at hS2 hk2 wG
 exact⟨σ,_,⟨hR.size,hR.defers,hS2,fun u=>((hR.T u).mono (eH.refl _ _) hk).mono (eH.refl _ _) hk2⟩,hst.trans wG,by
  have:=hk.trans hk2
  exact this.tail⟩
end
inductive D.Fit:D->Prop
 |b (x):Fit (.b x)
 |i (k n):Fit (.i k n)
 |s (l) (h:l.length<=9223372036854775807):Fit (.s l)
 |sl (es) (h:es.length<=9223372036854775807) (hh:∀e∈es,∀d∈e,Fit d):Fit (.sl es)
 |o (v):Fit (.o v)
def Gs(cs:List D):Prop:=∀d∈cs,d.Fit
theorem Gt:Gs []:=fun d h=>by cases h
theorem Ih{d:D}{ds:List D}:Gs (d::ds)<->d.Fit/\Gs ds:=by simp[Gs]
theorem abv{a b:List D}:Gs (a++b)<->Gs a/\Gs b:=by
 simp only[Gs,dm];exact⟨fun h=>⟨fun d hd=>h d (.inl hd),fun d hd=>h d (.inr hd)⟩,fun h d hd=>hd.elim (h.1 d) (h.2 d)⟩
def WTF(P:Program)(W:TypeId->List D->Prop):List Field->List D->Prop
 |[],ds=>ds=[]
 |f::fs,ds=>∃a b,ds=a++b/\a.length=P.cellsOf f.type/\W f.type a/\WTF P W fs b
def WT(P:Program):Nat->TypeId->List D->Prop
 |0,_,_=>False
 |n+1,t,ds=>
  match P.underlying t with
  |some .bool=>∃b,ds=[.b b]
  |some (.int k)=>∃x,ds=[.i k x]/\(Lit.int k x).wf=true
  |some .string=>∃l,ds=[.s l]/\l.length<=9223372036854775807
  |some (.slice e)=>∃es,ds=[.sl es]/\es.length<=9223372036854775807/\∀x∈es,x.length=P.cellsOf e/\WT P n e x
  |some (.struct fs)=>WTF P (WT P n) fs.toList ds
  |_=>False
def Fu(P:Program):List Field->Nat->Nat->Bool
 |[],a,b=>a==b
 |f::fs,a,b=>f.offset==a&&Fu P fs (a+P.cellsOf f.type) b
def Uk(P:Program)(L:List TypeId):Bool:=
 L.all fun t=>match P.underlying t with
  |some .bool|some (.int _)|some .string=>P.cellsOf t==1
  |some (.slice e)=>P.cellsOf t==1&&L.contains e&&decide (0<P.cellsOf e)
  |some (.struct fs)=>Fu P fs.toList 0 (P.cellsOf t)&&fs.toList.all fun f=>L.contains f.type
  |_=>false
def lW(w:World)(b:Nat):Nat:=match w.heap[b]? with
 |some (.cells c _ _)=>c.size
 |_=>0
def wH(w:World)(ds:List D)(vs:List Value):Prop:=ds.length=vs.length/\∀(j:Nat)(d:D),ds[j]? =some d->∃v,vs[j]? =some v/\dO w (lW w) d v/\v.oneCell'=true
theorem wH.append{w:World}{a b:List D}{xs ys:List Value}(h1:wH w a xs)(h2:wH w b ys):wH w (a++b) (xs++ys):=by
 refine⟨by simp[h1.1,h2.1],fun j d hj=> ?_⟩;rw[List.getElem?_append] at hj ⊢;have:=h1.1;split at hj
 ·rw[if_pos gA];exact h1.2 j d hj
 ·rw[if_neg gA,<-h1.1];exact h2.2 _ d hj
theorem wH.one{w:World}{d:D}{v:Value}(h:dO w (lW w) d v)(h1:v.oneCell'=true):wH w [d] [v]:=by
 refine⟨rfl,fun j x hj=> ?_⟩
 cases j with
 |zero=>cases hj;exact⟨v,rfl,h,h1⟩
 |succ j=>simp at hj
theorem YS{α β:Type}(f:α->Option β):∀(l:List α)(ys:List β),l.mapM f=some ys->ys.length=l.length/\∀(j:Nat)(x:α),l[j]? =some x->∃y,f x=some y/\ys[j]? =some y
 |[],ys,h=>by
  simp at h;subst h;exact⟨rfl,fun j x hj=>by simp at hj⟩
 |a::l,ys,h=>by
  rw[ef] at h
  cases ha:f a with
  |none=>rw[ha] at h;cases h
  |some y=>
   cases hl:l.mapM f with
   |none=>rw[ha,hl] at h;cases h
   |some zs=>
    rw[ha,hl] at h;cases h;obtain⟨h1,h2⟩:=YS f l zs hl;refine⟨by simp[h1],fun j x hj=> ?_⟩
    cases j with
    |zero=>cases hj;exact⟨y,ha,rfl⟩
    |succ j=>exact h2 j x hj
section
variable {H:Type} {enc:TypeId×Value->H} {P:Program} {w:World} {L:List TypeId}
theorem Ky{a:Addr}{n:Nat}{vs:List Value}(hn:0<n)(h:w.cells? 0 a n=some vs):a.spot=none/\vs.length=n/\∃c t fz,w.heap[a.block]? =some (.cells c t fz)/\∀j,j<n->∃v,vs[j]? =some v/\c[a.off+j]? =some v:=by
 unfold World.cells? at h;rw[if_pos (an _)] at h;obtain⟨h1,h2⟩:=YS _ _ _ h;rw[List.length_range] at h1;obtain⟨v0,hv0,_⟩:=h2 0 0 (by simp[hn])
 have Xr:a.add 0=a:=by simp[Addr.add]
 rw[Xr] at hv0;unfold World.cell? at hv0
 cases hb:w.heap[a.block]? with
 |none=>rw[hb] at hv0;cases hv0
 |some ob=>
  rw[hb] at hv0
  cases ob with
  |map _ _=>cases hv0
  |cells c t fz=>
   have hs:a.spot=none:=by
    cases hsp:a.spot with
    |none=>rfl
    |some x=>rw[hsp] at hv0;simp at hv0
   refine⟨hs,h1,c,t,fz,rfl,fun j hj=> ?_⟩;obtain⟨v,hv,hvs⟩:=h2 j j (by simp[hj]);refine⟨v,hvs,?_⟩;unfold World.cell? at hv;by_cases hj0:j=0
   ·subst hj0;rw[Xr,hb] at hv;simp[hs] at hv;simpa using hv
   ·simp[Addr.add,hj0,hb] at hv;exact hv
  |_=>cases hv0
theorem OY{α:Type}{p:Nat->α->Prop}:∀n:Nat,(∀i,i<n->∃x,p i x)->∃l:List α,l.length=n/\∀(i:Nat)(x:α),l[i]? =some x->p i x
 |0,_=>⟨[],rfl,fun i x h=>by simp at h⟩
 |n+1,h=>by
  obtain⟨l,hl,hp⟩:=OY n fun i hi=>h i gA;obtain⟨x,hx⟩:=h n gA;refine⟨l++[x],by simp[hl],fun i y hy=> ?_⟩;rw[List.getElem?_append] at hy;split at hy
  ·exact hp i y hy
  ·rename_i hlt
   have hi:i-l.length<1:=by
    have:=(ap.1 hy).1;simpa using this
   have:i=n:=gA
   subst this;rw[show i-l.length=0 from gA] at hy;cases hy;exact hx
theorem ahL(hc:Uk P L=true){t:TypeId}(ht:t∈L):(match P.underlying t with
 |some .bool|some (.int _)|some .string=>P.cellsOf t==1
 |some (.slice e)=>P.cellsOf t==1&&L.contains e&&decide (0<P.cellsOf e)
 |some (.struct fs)=>Fu P fs.toList 0 (P.cellsOf t)&&fs.toList.all fun f=>L.contains f.type
 |_=>false)=true:=az.1 hc t ht
theorem abw{n:Nat}{fs:List Field}{cs:List Value}:∀(off:Nat),off<=cs.length->Fu P fs off cs.length=true->
 (∀f∈fs,∃ds,WT P n f.type ds/\wH w ds ((cs.drop f.offset).take (P.cellsOf f.type)))->∃ds,WTF P (WT P n) fs ds/\wH w ds (cs.drop off):=by
 induction fs with
 |nil=>
  intro off _ ht _
  have:off=cs.length:=by simpa [Fu] using ht
  exact⟨[],rfl,by simp[this,wH]⟩
 |cons f fs ih=>
  intro off ho ht h;simp only[Fu,ai,beq_iff_eq] at ht;obtain⟨a,ha1,ha2⟩:=h f gL
  have hle:∀(fs:List Field)(o:Nat),Fu P fs o cs.length=true->o<=cs.length:=by
   intro fs
   induction fs with
   |nil=>intro o h;have:o=cs.length:=by simpa [Fu] using h
         omega
   |cons g gs ih=>intro o h;simp only[Fu,ai] at h;have:=ih _ h.2;omega
  have hle':=hle fs _ ht.2;obtain⟨b,hb1,hb2⟩:=ih (off+P.cellsOf f.type) hle' ht.2 fun g hg=>h g (by simp[hg]);rw[ht.1] at ha2;refine⟨a++b,⟨a,b,rfl,?_,ha1,hb1⟩,?_⟩
  ·rw[ha2.1];simp;omega
  ·have:=ha2.append hb2;rw[<-fR,da] at this;exact this
theorem Mi(hc:Uk P L=true){sp:Nat->Bool}{held:Bool}:∀(fuel:Nat)(t:TypeId)(cs:List Value)(x:DataW H×List MemPlace),t∈L->
 DataW.trod enc P w 0 sp held fuel t cs=some x->∃ds,WT P fuel t ds/\wH w ds cs
 |0,t,cs,x,_,h=>by simp[DataW.trod] at h
 |n+1,t,cs,x,ht,h=>by
  have hcl:=ahL hc ht
  cases hu:P.underlying t with
  |none=>rw[hu] at hcl;cases hcl
  |some u=>
   rw[hu] at hcl
   cases u with
   |bool=>
    obtain⟨b,rfl,_⟩:=DataW.trod_bool hu h;exact⟨[.b b],by simp only[WT,hu];exact⟨b,rfl⟩,wH.one (.b b) rfl⟩
   |int k=>
    obtain⟨m,rfl,_,hw⟩:=DataW.trod_int hu h;exact⟨[.i k m],by simp only[WT,hu];exact⟨m,rfl,hw⟩,wH.one (.i k m) rfl⟩
   |string=>
    obtain⟨s,rfl,_,hs⟩:=DataW.trod_string hu h
    have hl:s.data.toList.length<=9223372036854775807:=by
     have h1:s.data.toList.length=s.size:=by rw[cp];rfl
     rw[h1];exact hs
    refine⟨[.s s.data.toList],?_,wH.one ?_ rfl⟩
    ·simp only[WT,hu];exact⟨_,rfl,hl⟩
    ·exact .s s.data.toList
   |slice e=>
    simp only[ai,beq_iff_eq,decide_eq_true_eq,List.contains_iff_mem] at hcl;obtain⟨⟨h1,he⟩,hpos⟩:=hcl;rcases DataW.trod_slice hu h with⟨rfl,_⟩|⟨a,len,cap,elems,rest,m,hm,rfl,_,_,hlc,hcm,hel,hget,_,_⟩
    ·exact⟨[.sl []],by simp only[WT,hu];exact⟨[],rfl,gL,fun x hx=>by cases hx⟩,wH.one (.nil _ _) rfl⟩
    ·cases hm
     have hall:∀i,i<len->∃ds:List D,ds.length=P.cellsOf e/\WT P n e ds/\∃vs,w.cells? 0 (a.add (i*P.cellsOf e)) (P.cellsOf e)=some vs/\wH w ds vs:=by
      intro i hi;have hg:=hget i hi
      cases hcs:w.cells? 0 (a.add (i*P.cellsOf e)) (P.cellsOf e) with
      |none=>
       rw[hcs] at hg
       have:i<elems.length:=gA
       rw[am this] at hg;cases hg
      |some vs=>
       rw[hcs] at hg
       have hlt:i<elems.length:=gA
       rw[am hlt] at hg;obtain⟨ds,hd1,hd2⟩:=Mi hc n e vs _ he hg;have hv:=(Ky hpos hcs).2.1;exact⟨ds,by rw[hd2.1,hv],hd1,vs,rfl,hd2⟩
     obtain⟨es,hes,hp⟩:=OY len hall
     have hwt:WT P (n+1) t [.sl es]:=by
      simp only[WT,hu]
      refine⟨es,rfl,by have:cap<=9223372036854775807:=hcm
                       omega,fun x hx=> ?_⟩
      obtain⟨i,hi⟩:=em hx;exact⟨(hp i x hi).1,(hp i x hi).2.1⟩
     refine⟨[.sl es],hwt,?_⟩
     cases Ki:es with
     |nil=>
      have h0:len=0:=by rw[<-hes,Ki];rfl
      subst h0;exact wH.one (.nil _ _) rfl
     |cons e0 es0=>
      have asU:0<len:=by rw[<-hes,Ki];simp
      have hlen:∀x∈es,x.length=P.cellsOf e:=fun x hx=>by
       obtain⟨i,hi⟩:=em hx;exact(hp i x hi).1
      obtain⟨ds0,_,_,vs0,aqR,_⟩:=hall 0 asU
      have Xr:a.add (0*P.cellsOf e)=a:=by simp[Addr.add]
      rw[Xr] at aqR;obtain⟨hsp,_,c,tt,fz,hblk,_⟩:=Ky hpos aqR
      have hcell:∀i r,i<len->r<P.cellsOf e->∃(x:List D) (v:Value) (d:D),es[i]? =some x/\x[r]? =some d/\c[a.off+(i*P.cellsOf e+r)]? =some v/\dO w (lW w) d v:=by
       intro i r hi hr
       have hlt:i<es.length:=gA
       obtain⟨hx1,hx2,vs,hvs,hrep⟩:=hp i es[i] (am hlt);obtain⟨_,hvl,c',t',fz',hblk',hcc⟩:=Ky hpos hvs
       have hb':(a.add (i*P.cellsOf e)).block=a.block:=by unfold Addr.add;split<;>rfl
       have ho':(a.add (i*P.cellsOf e)).off=a.off+i*P.cellsOf e:=by unfold Addr.add;split<;>simp_all
       rw[hb',hblk] at hblk';cases hblk';obtain⟨v,hv1,hv2⟩:=hcc r hr
       have hdr:r<es[i].length:=gA
       obtain⟨v',hv',hd',_⟩:=hrep.2 r es[i][r] (am hdr);rw[hv1] at hv';cases hv';refine⟨es[i],v,es[i][r],am hlt,am hdr,?_,hd'⟩;rw[ho'] at hv2;rw[<-ec];exact hv2
      have hbound:a.off+len*P.cellsOf e<=c.size:=by
       obtain⟨_,v,_,_,_,hv,_⟩:=hcell (len-1) (P.cellsOf e-1) gA gA;have:=(bj.1 hv).1
       have e1:(len-1)*P.cellsOf e+P.cellsOf e=len*P.cellsOf e:=by
        rw[<-Nat.succ_mul];congr 1;omega
       omega
      have key:dO w (lW w) (.sl es) (.slice (some ⟨a.block,a.off,none⟩) es.length cap):=by
       refine .sl a.block a.off cap (P.cellsOf e) es (fun j=>(c[a.off+j]?).getD undef) c tt fz gA hlen hblk ?_ (fun j hj=> ?_) (fun j d hj=> ?_)
       ·unfold lW;rw[hblk,hes];exact hbound
       ·have:a.off+j<c.size:=by rw[hes] at hj;omega
        rw[cq this];rfl
       ·have hfl:es.flatten.length=es.length*P.cellsOf e:=iT es _ hlen
        have hjl:j<es.length*P.cellsOf e:=by rw[<-hfl];exact(ap.1 hj).1
        have hi:j/P.cellsOf e<len:=by rw[<-hes];exact(Nat.div_lt_iff_lt_mul hpos).2 hjl
        obtain⟨x,v,d',hx,hd',hv,hr⟩:=hcell (j/P.cellsOf e) (j % P.cellsOf e) hi (Nat.mod_lt _ hpos)
        have hlt':j/P.cellsOf e<es.length:=gA
        have hfg:=flat_get es (P.cellsOf e) hlen (j/P.cellsOf e) (j % P.cellsOf e) hlt' (Nat.mod_lt _ hpos)
        have hj':j/P.cellsOf e*P.cellsOf e+j % P.cellsOf e=j:=by rw[Nat.mul_comm];exact Nat.div_add_mod j _
        rw[hj',hj] at hfg;rw[am hlt'] at hx;cases hx;rw[hd'] at hfg;cases hfg;rw[hj'] at hv;rw[hv];exact hr
      rw[<-Ki];refine wH.one ?_ rfl
      have ha:a=⟨a.block,a.off,none⟩:=by cases a;simp at hsp;simp[hsp]
      rw[ha,<-hes];exact key
   |struct fs=>
    simp only[ai] at hcl;obtain⟨htl,hfs⟩:=hcl;obtain⟨xs,m,hm,rfl,hlen,hxs,auC⟩:=DataW.trod_struct hu h;cases hm;rw[<-hlen] at htl
    obtain⟨ds,h1,h2⟩:=abw (w:=w) (n:=n) (cs:=cs) 0 (an _) htl fun f hf=>by
     obtain⟨i,hi⟩:=em hf
     have hi':fs[i]? =some f:=by simpa using hi
     have hg:=auC i f hi'
     have hlt:i<xs.length:=by
      rw[hxs];exact(bj.1 hi').1
     rw[am hlt] at hg
     have hfL:f.type∈L:=by
      have:=az.1 hfs f hf;simpa using this
     exact Mi hc n f.type _ _ hfL hg
    refine⟨ds,by simp only[WT,hu];exact h1,?_⟩;rw[cN] at h2;exact h2
   |_=>cases hcl
end
open Go.ChangeShapes Go.WideShapes Go.ChangeAt Go.RowKit
section
variable {H:Type} {enc:TypeId×Value->H} {P:Program} {W W':World} {L:List TypeId} {t:TypeId} {v:Value} {base:Nat}
theorem ak7{d:D}(hv:v.cells.toList=[v])(hL:wH W [d] v.cells.toList):dR W (lW W) [] [] (.c (.d d)) v:=by
 obtain⟨u,h1,h2,h3⟩:=hL.2 0 d rfl;rw[hv] at h1;cases h1;exact⟨h2,h3⟩
theorem ahM{e:TypeId}{d:D}(ht:P.underlying t=some (.slice e))(hok:Value.okWide P W .any base t v)(hL:wH W [d] v.cells.toList):dR W (lW W) [] [] (.c (.d d)) v:=by
 obtain⟨a,n,m,rfl⟩:=okWide_slice ht hok;exact ak7 rfl hL
theorem ahN:pO W (lW W) [] [] [] []:=⟨rfl,fun j x h=>by simp at h⟩
theorem aeN{x:V}{xs:List V}{vs:List Value}(h1:dR W (lW W) [] [] x v)(h2:pO W (lW W) [] [] xs vs):pO W (lW W) [] [] (x::xs) (v::vs):=by
 refine⟨by simp[h2.1],fun j y hj=> ?_⟩
 cases j with
 |zero=>cases hj;exact⟨v,rfl,h1⟩
 |succ j=>exact h2.2 j y hj
theorem ak8(W:World)(hg:mF W (lW W)):fC W (lW W) [] [] where
 vH:=hg
 obj:=fun k o h=>by rw[rH] at h;cases h
 apart:=fun k k' o o' h h' b h1=>by rw[rH] at h1;cases h1
 shape:=⟨rfl,fun l fr h=>by simp at h⟩
 live:=fun b=>by
  by_cases h:b<W.heap.size
  ·exact .inl h
  ·right;unfold lW;rw[dE gA]
theorem aqS{b:Nat}:¬Own [] [] b:=fun⟨k,o,h,h1,_⟩=>by rw[rH] at h1;cases h1
theorem Li(hl:laidOutB P=true)(hsame:∀b,b<W.heap.size->W'.heap[b]? =W.heap[b]?)(sp:Nat->Bool):∀(ts:List TypeId)(vs:List Value)(ds:List (DataW H))(ps:List MemPlace),
 (ts.all fun t=>P.readableRec t&&decide (t<P.types.size))=true->(∀p∈ps,p.block<W.heap.size/\sp p.block=true)->
   DataW.TrodAll enc P W 0 (fun _=>true) true ts vs ds ps->DataW.TrodAll enc P W' 0 sp true ts vs ds ps
 |[],[],[],ps,_,_,h=>h
 |t::ts,v::vs,d::ds,ps,hr,hlt,h=>by
  simp only[dv,ai,decide_eq_true_eq] at hr;obtain⟨p,q,h1,h2,rfl⟩:=h;refine⟨p,q,WideElems.Trod_stays hl hr.1.1 hr.1.2 h1 (fun x hx=> ?_) (fun x hx=>(hlt x (by simp[hx])).2),Li hl hsame sp ts vs ds q hr.2 (fun x hx=>hlt x (by simp[hx])) h2,rfl⟩;have hb:=(hlt x (by simp[hx])).1
  cases x with
  |cell b o=>exact World.cell?_of_block (w:=W) (hsame b hb)
  |map b=>exact hsame b hb
 |[],[],_::_,ps,_,_,h=>h.elim
 |[],_::_,_,ps,_,_,h=>h.elim
 |_::_,[],_,ps,_,_,h=>h.elim
 |_::_,_::_,[],ps,_,_,h=>h.elim
theorem ak9{f:FuncId}{fn:Func}{s:ChangeSpec}{args:Array Value}{ds gs:List (DataW H)}{before:List MemPlace}{vs:List V}{tb:TypeId}(hl:laidOutB P=true)
 (hr:(fn.params.toList.all fun t=>P.readableRec t&&decide (t<P.types.size))=true)(hvars:s.vars=[])(hres:fn.resultTypes= #[tb])(htb:P.underlying tb=some .bool)
 (hs1:(s.fn H (ds++gs)).results=[.lit (.bool true)])(hs2:(s.fn H (ds++gs)).args=ds)(hs3:(s.fn H (ds++gs)).vars=[])
 (hW:DataW.Whole enc P fn.params.toList s.vars false W args.toList ds gs before)(hargs:pO W (lW W) [] [] vs args.toList)
 (hcall:bS P f vs [] fun r _=>r=.c (.d (.b true)))(asV:mF W (lW W):=by(intro g p hm;exact absurd hm fc)):
 Calls P f args W fun e W'=>∃v,e=.returned v/\s.post enc P fn false true false false W args v W':=by
 have hc:=hcall.2 W (lW W) [] args.toList (ak8 W asV) hargs
 have e1:args.toList.toArray=args:=gL
 rw[e1] at hc;refine hc.mono fun e W' ⟨v,r,S',σ',β',he,hS',hk,hst,hv,hp⟩=> ?_;subst hp;obtain⟨hv,_⟩:=hv;cases hv;refine⟨_,he,?_⟩;have hsame:∀b,b<W.heap.size->W'.heap[b]? =W.heap[b]? :=fun b hb=>(hst.far b hb aqS).1;have hlt:=fun p hp=>hW.lt p hp;have hW0:=hW;obtain⟨pa,q,hA,hV,rfl,hz,hn⟩:=hW;rw[hvars] at hV
 have hq:gs=[]/\q=[]:=by
  obtain⟨h1,h2⟩:=trodVars_none hV;exact⟨h1,h2⟩
 obtain⟨rfl,rfl⟩:=hq
 rw[bm] at *
 refine⟨ds,[],pa,[],pa,[],?_,?_,?_,?_,?_,fun h=>by cases h⟩
 ·simpa using hW0
 ·rw[bm,hs1,hres];exact trodAll_cons_mk (shut_bool htb _) trodAll_mk0
 ·rw[bm,hs2];exact Li hl hsame _ _ _ _ _ hr (fun p hp=>⟨hlt p hp,by simpa using hlt p hp⟩) hA
 ·rw[bm,hs3,hvars];rfl
 ·refine⟨hst.os,hst.output,fun i hi=> ?_⟩;rw[hsame i hi];split<;>simp_all
end
structure Hq(p:Prop):Prop where
 out:p
theorem W1{G K:Prop}(k:K)(e:Hq K->G:=by intro k;simp -implicitDefEqProofs (disch:=omega) only[go_sem];exact k.out):G:=e ⟨k⟩
theorem Z1{G:Prop}(e:G:=by simp -implicitDefEqProofs (disch:=omega) only[go_sem];done):G:=e
theorem W2{G K:Prop}(k:K)(e:Hq K->G:=by intro k;simp -implicitDefEqProofs (disch:=omega) only[go_sem]<;>(repeat(with_reducible refine And.intro ?_ ?_;focus first|omega|rfl|assumption|exact⟨_,rfl,rfl⟩|(simp;omega)|(simp;done)));exact k.out):G:=e ⟨k⟩
theorem W3{G K:Prop}(k:K)(e:Hq K->G:=by intro k;(repeat(with_reducible refine And.intro ?_ ?_;focus first|omega|rfl|assumption|exact⟨_,rfl,rfl⟩|(simp;omega)|(simp;done)));exact k.out):G:=e ⟨k⟩
theorem S0{c:Bool}{s:St}{A B:St->Prop}{P Q:Prop}{A':P->Prop}{B':Q->Prop}(k:c=true->(h:P)->A' h)(k2:c=false->(h:Q)->B' h)(e:Hq (c=true->(h:P)->A' h)->c=true->A s:=by intro k hb;have h:=hb;(try simp only[wf_preprocess] at h);simp -implicitDefEqProofs (disch:=omega) only[go_sem,hb]<;>(repeat(with_reducible refine And.intro ?_ ?_;focus first|omega|rfl|assumption|exact⟨_,rfl,rfl⟩|(simp;omega)|(simp;done)));exact k.out hb h)
 (e2:Hq (c=false->(h:Q)->B' h)->c=false->B s:=by intro k hb;have h:=hb;(try simp only[wf_preprocess] at h);simp -implicitDefEqProofs (disch:=omega) only[go_sem,hb]<;>(repeat(with_reducible refine And.intro ?_ ?_;focus first|omega|rfl|assumption|exact⟨_,rfl,rfl⟩|(simp;omega)|(simp;done)));exact k.out hb h):Split c A B s:=qJ (e ⟨k⟩) (e2 ⟨k2⟩)
theorem S1{c:Bool}{s:St}{A B:St->Prop}{Q:Prop}{B':Q->Prop}(k2:c=false->(h:Q)->B' h)(e:c=true->A s:=by intro hb;have h:=hb;(try simp only[wf_preprocess] at h);simp -implicitDefEqProofs (disch:=omega) only[go_sem,hb]<;>(repeat(with_reducible refine And.intro ?_ ?_;focus first|omega|rfl|assumption|exact⟨_,rfl,rfl⟩|(simp;omega)|(simp;done)));done)
 (e2:Hq (c=false->(h:Q)->B' h)->c=false->B s:=by intro k hb;have h:=hb;(try simp only[wf_preprocess] at h);simp -implicitDefEqProofs (disch:=omega) only[go_sem,hb]<;>(repeat(with_reducible refine And.intro ?_ ?_;focus first|omega|rfl|assumption|exact⟨_,rfl,rfl⟩|(simp;omega)|(simp;done)));exact k.out hb h):Split c A B s:=qJ e (e2 ⟨k2⟩)
theorem S2{c:Bool}{s:St}{A B:St->Prop}{P:Prop}{A':P->Prop}(k:c=true->(h:P)->A' h)(e:Hq (c=true->(h:P)->A' h)->c=true->A s:=by intro k hb;have h:=hb;(try simp only[wf_preprocess] at h);simp -implicitDefEqProofs (disch:=omega) only[go_sem,hb]<;>(repeat(with_reducible refine And.intro ?_ ?_;focus first|omega|rfl|assumption|exact⟨_,rfl,rfl⟩|(simp;omega)|(simp;done)));exact k.out hb h)
 (e2:c=false->B s:=by intro hb;have h:=hb;(try simp only[wf_preprocess] at h);simp -implicitDefEqProofs (disch:=omega) only[go_sem,hb]<;>(repeat(with_reducible refine And.intro ?_ ?_;focus first|omega|rfl|assumption|exact⟨_,rfl,rfl⟩|(simp;omega)|(simp;done)));done):Split c A B s:=qJ (e ⟨k⟩) e2
theorem S3{c:Bool}{s:St}{A B:St->Prop}(e:c=true->A s:=by intro hb;have h:=hb;(try simp only[wf_preprocess] at h);simp -implicitDefEqProofs (disch:=omega) only[go_sem,hb]<;>(repeat(with_reducible refine And.intro ?_ ?_;focus first|omega|rfl|assumption|exact⟨_,rfl,rfl⟩|(simp;omega)|(simp;done)));done)(e2:c=false->B s:=by intro hb;have h:=hb;(try simp only[wf_preprocess] at h);simp -implicitDefEqProofs (disch:=omega) only[go_sem,hb]<;>(repeat(with_reducible refine And.intro ?_ ?_;focus first|omega|rfl|assumption|exact⟨_,rfl,rfl⟩|(simp;omega)|(simp;done)));done):Split c A B s:=qJ e e2
theorem wm{G K:Prop}(k:K)(e:Hq K->G:=by intro k;simp -implicitDefEqProofs (disch:=omega) only[go_sem,encS];exact k.out):G:=e ⟨k⟩
theorem nL{G K:Prop}(k:K)(e:Hq K->G:=by intro k;simp -implicitDefEqProofs (disch:=omega) only[go_sem,d1];exact k.out):G:=e ⟨k⟩
theorem zA{G K:Prop}(k:K)(e:Hq K->G:=by intro k;simp -implicitDefEqProofs (disch:=omega) only[go_sem,hk];exact k.out):G:=e ⟨k⟩
theorem Z1k{G:Prop}(e:G:=by simp -implicitDefEqProofs (disch:=omega) only[go_sem,hk];done):G:=e
theorem W1v{G K:Prop}(k:K)(e:Hq K->G:=by intro k;simp -implicitDefEqProofs (disch:=omega) only[go_sem,hv];exact k.out):G:=e ⟨k⟩
theorem Rt{G:Prop}(e:G:=by simp -implicitDefEqProofs (disch:=omega) only[go_sem,hv];done):G:=e
theorem Mj{G K:Prop}(k:K)(e:Hq K->G:=by intro k;simp -implicitDefEqProofs (disch:=omega) only[go_sem,d0];exact k.out):G:=e ⟨k⟩
theorem Z1o{G:Prop}(e:G:=by simp -implicitDefEqProofs (disch:=omega) only[go_sem,d0];done):G:=e
theorem YT{G K:Prop}(k:K)(e:Hq K->G:=by intro k;simp -implicitDefEqProofs (disch:=omega) only[go_sem,ha,hs];exact k.out):G:=e ⟨k⟩
theorem YU{G K:Prop}(k:K)(e:Hq K->G:=by intro k;simp -implicitDefEqProofs (disch:=omega) only[go_sem,hv,ha,hs];exact k.out):G:=e ⟨k⟩
theorem yB{G K:Prop}(k:K)(e:Hq K->G:=by intro k;simp -implicitDefEqProofs (disch:=omega) only[go_sem,g,aW,dn,cu,nA];exact k.out):G:=e ⟨k⟩
theorem W1i{G K:Prop}(k:K)(e:Hq K->G:=by intro k;simp -implicitDefEqProofs (disch:=omega) only[go_sem,d1,g,aW,dn,cu,nA];exact k.out):G:=e ⟨k⟩
theorem W1l{G K:Prop}(k:K)(e:Hq K->G:=by intro k;simp -implicitDefEqProofs (disch:=omega) only[go_sem,l0,l1,l2];exact k.out):G:=e ⟨k⟩
theorem YV{G K:Prop}(k:K)(e:Hq K->G:=by intro k;simp -implicitDefEqProofs (disch:=omega) only[go_sem,n3,n4,n5,n6,n7,n8,n9,n10,n11,n12];exact k.out):G:=e ⟨k⟩
theorem BD{c:Bool}{s:St}{A B:St->Prop}{P Q:Prop}{A':P->Prop}{B':Q->Prop}(k:c=true->(h:P)->A' h)(k2:c=false->(h:Q)->B' h)(e:Hq (c=true->(h:P)->A' h)->c=true->A s:=by intro k hb;have h:=hb;(try simp only[wf_preprocess] at h);simp -implicitDefEqProofs (disch:=omega) only[go_sem,hb,encS]<;>(repeat(with_reducible refine And.intro ?_ ?_;focus first|omega|rfl|assumption|exact⟨_,rfl,rfl⟩|(simp;omega)|(simp;done)));exact k.out hb h)
 (e2:Hq (c=false->(h:Q)->B' h)->c=false->B s:=by intro k hb;have h:=hb;(try simp only[wf_preprocess] at h);simp -implicitDefEqProofs (disch:=omega) only[go_sem,hb,encS]<;>(repeat(with_reducible refine And.intro ?_ ?_;focus first|omega|rfl|assumption|exact⟨_,rfl,rfl⟩|(simp;omega)|(simp;done)));exact k.out hb h):Split c A B s:=qJ (e ⟨k⟩) (e2 ⟨k2⟩)
theorem EO{c:Bool}{s:St}{A B:St->Prop}{P Q:Prop}{A':P->Prop}{B':Q->Prop}(k:c=true->(h:P)->A' h)(k2:c=false->(h:Q)->B' h)(e:Hq (c=true->(h:P)->A' h)->c=true->A s:=by intro k hb;have h:=hb;(try simp only[wf_preprocess] at h);simp -implicitDefEqProofs (disch:=omega) only[go_sem,hb,d1]<;>(repeat(with_reducible refine And.intro ?_ ?_;focus first|omega|rfl|assumption|exact⟨_,rfl,rfl⟩|(simp;omega)|(simp;done)));exact k.out hb h)
 (e2:Hq (c=false->(h:Q)->B' h)->c=false->B s:=by intro k hb;have h:=hb;(try simp only[wf_preprocess] at h);simp -implicitDefEqProofs (disch:=omega) only[go_sem,hb,d1]<;>(repeat(with_reducible refine And.intro ?_ ?_;focus first|omega|rfl|assumption|exact⟨_,rfl,rfl⟩|(simp;omega)|(simp;done)));exact k.out hb h):Split c A B s:=qJ (e ⟨k⟩) (e2 ⟨k2⟩)
theorem S0k{c:Bool}{s:St}{A B:St->Prop}{P Q:Prop}{A':P->Prop}{B':Q->Prop}(k:c=true->(h:P)->A' h)(k2:c=false->(h:Q)->B' h)(e:Hq (c=true->(h:P)->A' h)->c=true->A s:=by intro k hb;have h:=hb;(try simp only[wf_preprocess] at h);simp -implicitDefEqProofs (disch:=omega) only[go_sem,hb,hk]<;>(repeat(with_reducible refine And.intro ?_ ?_;focus first|omega|rfl|assumption|exact⟨_,rfl,rfl⟩|(simp;omega)|(simp;done)));exact k.out hb h)
 (e2:Hq (c=false->(h:Q)->B' h)->c=false->B s:=by intro k hb;have h:=hb;(try simp only[wf_preprocess] at h);simp -implicitDefEqProofs (disch:=omega) only[go_sem,hb,hk]<;>(repeat(with_reducible refine And.intro ?_ ?_;focus first|omega|rfl|assumption|exact⟨_,rfl,rfl⟩|(simp;omega)|(simp;done)));exact k.out hb h):Split c A B s:=qJ (e ⟨k⟩) (e2 ⟨k2⟩)
theorem S0o{c:Bool}{s:St}{A B:St->Prop}{P Q:Prop}{A':P->Prop}{B':Q->Prop}(k:c=true->(h:P)->A' h)(k2:c=false->(h:Q)->B' h)(e:Hq (c=true->(h:P)->A' h)->c=true->A s:=by intro k hb;have h:=hb;(try simp only[wf_preprocess] at h);simp -implicitDefEqProofs (disch:=omega) only[go_sem,hb,d0]<;>(repeat(with_reducible refine And.intro ?_ ?_;focus first|omega|rfl|assumption|exact⟨_,rfl,rfl⟩|(simp;omega)|(simp;done)));exact k.out hb h)
 (e2:Hq (c=false->(h:Q)->B' h)->c=false->B s:=by intro k hb;have h:=hb;(try simp only[wf_preprocess] at h);simp -implicitDefEqProofs (disch:=omega) only[go_sem,hb,d0]<;>(repeat(with_reducible refine And.intro ?_ ?_;focus first|omega|rfl|assumption|exact⟨_,rfl,rfl⟩|(simp;omega)|(simp;done)));exact k.out hb h):Split c A B s:=qJ (e ⟨k⟩) (e2 ⟨k2⟩)
theorem S0g{c:Bool}{s:St}{A B:St->Prop}{P Q:Prop}{A':P->Prop}{B':Q->Prop}(k:c=true->(h:P)->A' h)(k2:c=false->(h:Q)->B' h)(e:Hq (c=true->(h:P)->A' h)->c=true->A s:=by intro k hb;have h:=hb;(try simp only[wf_preprocess] at h);simp -implicitDefEqProofs (disch:=omega) only[go_sem,hb,g,aW,dn,cu,nA]<;>(repeat(with_reducible refine And.intro ?_ ?_;focus first|omega|rfl|assumption|exact⟨_,rfl,rfl⟩|(simp;omega)|(simp;done)));exact k.out hb h)
 (e2:Hq (c=false->(h:Q)->B' h)->c=false->B s:=by intro k hb;have h:=hb;(try simp only[wf_preprocess] at h);simp -implicitDefEqProofs (disch:=omega) only[go_sem,hb,g,aW,dn,cu,nA]<;>(repeat(with_reducible refine And.intro ?_ ?_;focus first|omega|rfl|assumption|exact⟨_,rfl,rfl⟩|(simp;omega)|(simp;done)));exact k.out hb h):Split c A B s:=qJ (e ⟨k⟩) (e2 ⟨k2⟩)
theorem Vl{c:Bool}{s:St}{A B:St->Prop}{P Q:Prop}{A':P->Prop}{B':Q->Prop}(k:c=true->(h:P)->A' h)(k2:c=false->(h:Q)->B' h)(e:Hq (c=true->(h:P)->A' h)->c=true->A s:=by intro k hb;have h:=hb;(try simp only[wf_preprocess] at h);simp -implicitDefEqProofs (disch:=omega) only[go_sem,hb,l0,l1,l2]<;>(repeat(with_reducible refine And.intro ?_ ?_;focus first|omega|rfl|assumption|exact⟨_,rfl,rfl⟩|(simp;omega)|(simp;done)));exact k.out hb h)
 (e2:Hq (c=false->(h:Q)->B' h)->c=false->B s:=by intro k hb;have h:=hb;(try simp only[wf_preprocess] at h);simp -implicitDefEqProofs (disch:=omega) only[go_sem,hb,l0,l1,l2]<;>(repeat(with_reducible refine And.intro ?_ ?_;focus first|omega|rfl|assumption|exact⟨_,rfl,rfl⟩|(simp;omega)|(simp;done)));exact k.out hb h):Split c A B s:=qJ (e ⟨k⟩) (e2 ⟨k2⟩)
theorem S0n{c:Bool}{s:St}{A B:St->Prop}{P Q:Prop}{A':P->Prop}{B':Q->Prop}(k:c=true->(h:P)->A' h)(k2:c=false->(h:Q)->B' h)(e:Hq (c=true->(h:P)->A' h)->c=true->A s:=by intro k hb;have h:=hb;(try simp only[wf_preprocess] at h);simp -implicitDefEqProofs (disch:=omega) only[go_sem,hb,n3,n4,n5,n6,n7,n8,n9,n10,n11,n12]<;>(repeat(with_reducible refine And.intro ?_ ?_;focus first|omega|rfl|assumption|exact⟨_,rfl,rfl⟩|(simp;omega)|(simp;done)));exact k.out hb h)
 (e2:Hq (c=false->(h:Q)->B' h)->c=false->B s:=by intro k hb;have h:=hb;(try simp only[wf_preprocess] at h);simp -implicitDefEqProofs (disch:=omega) only[go_sem,hb,n3,n4,n5,n6,n7,n8,n9,n10,n11,n12]<;>(repeat(with_reducible refine And.intro ?_ ?_;focus first|omega|rfl|assumption|exact⟨_,rfl,rfl⟩|(simp;omega)|(simp;done)));exact k.out hb h):Split c A B s:=qJ (e ⟨k⟩) (e2 ⟨k2⟩)
section
variable {P:Program} {s:St} {dr:Option Nat} {f:FuncId} {args:List V} {dst:Option Nat} {K:St->Prop} {r:V}
theorem C1{Q:Prop}(h:aD P f (args.map V.vw) r)(k:Q)(e:Hq Q->K (s.put dst r):=by intro k;simp -implicitDefEqProofs (disch:=omega) only[go_sem];exact k.out):fH P dr f args s dst K:=bn h (e ⟨k⟩)
theorem C2{Q:Prop}(h:aD P f (args.map V.vw) r)(k:Q)(e:Hq Q->K (s.put dst r):=by intro k;simp -implicitDefEqProofs (disch:=omega) only[go_sem]<;>(repeat(with_reducible refine And.intro ?_ ?_;focus first|omega|rfl|assumption|exact⟨_,rfl,rfl⟩|(simp;omega)|(simp;done)));exact k.out):fH P dr f args s dst K:=bn h (e ⟨k⟩)
theorem C3(h:aD P f (args.map V.vw) r)(e:K (s.put dst r):=by simp -implicitDefEqProofs (disch:=omega) only[go_sem];done):fH P dr f args s dst K:=bn h e
theorem C4(h:aD P f (args.map V.vw) r)(e:K (s.put dst r):=by simp -implicitDefEqProofs (disch:=omega) only[go_sem]<;>(repeat(with_reducible refine And.intro ?_ ?_;focus first|omega|rfl|assumption|exact⟨_,rfl,rfl⟩|(simp;omega)|(simp;done)));done):fH P dr f args s dst K:=bn h e
end
mutual
def D.sz:D->Nat
 | .s l=>l.length
 | .sl es=>es.length+aS es
 | .b _=>0
 | .i _ _=>0
 | .o _=>0
 | .ol _ es=>es.length+aS es
def bX:List D->Nat
 |[]=>0
 |d::ds=>d.sz+bX ds
def aS:List (List D)->Nat
 |[]=>0
 |r::rs=>bX r+aS rs
end
theorem bT:∀(a b:List D),bX (a++b)=bX a+bX b
 |[],b=>by simp[bX]
 |d::ds,b=>by rw[ba,bX,bT ds b,bX];omega
def qb(left:Int)(n:Nat):Int:=if left-n<0 then -1 else left-n
theorem Oc{l:Int}{a:Nat}(h:¬qb l a<0):qb l a=l-a/\0<=l-a:=by
 unfold qb at *
 split at h
 ·omega
 ·rename_i h';exact⟨if_neg h',gA⟩
theorem Kz{l:Int}{a:Nat}(h:qb l a<0):l-a<0:=by
 unfold qb at *
 split at h<;>omega
theorem Od{l:Int}{a:Nat}(h:l-a<0):qb l a= -1:=if_pos h
theorem YW{l:Int}{a:Nat}(h:0<=l-a):qb l a=l-a:=if_neg gA
theorem int_eq{k:IntKind}{a b:Int}(h:a=b):V.c (.d (.i k a))=V.c (.d (.i k b)):=by rw[h]
theorem aK{a b:Bool}(h:a=b):V.c (.d (.b a))=V.c (.d (.b b)):=by rw[h]
noncomputable def dec(p:Prop):Bool:= @decide p (Classical.propDecidable p)
theorem bK{p:Prop}(h:p):dec p=true:=by simp[dec,h]
theorem aO{p:Prop}(h:¬p):dec p=false:=by simp[dec,h]
theorem gD{p:Prop}(h:dec p=true):p:=by simpa [dec] using h
theorem jw{p:Prop}(h:dec p=false):¬p:=by simpa [dec] using h
theorem Dk{p:Prop}:(dec p=true)=p:=by simp[dec]
theorem Mk{p:Prop}:(dec p=false)=¬p:=by simp[dec]
attribute [wf_preprocess] Dk Mk
theorem iJ{p q:Prop}(h:p<->q):dec p=dec q:=by rw[propext h]
theorem ala:dec True=true:=bK trivial
theorem ahR:dec False=false:=aO id
attribute [go_sem] ala ahR
theorem kK{p:Prop}[Decidable p]:decide p=dec p:=by by_cases h:p<;>simp[dec,h]
theorem dM{r:List D}:∀{rs:List (List D)},r∈rs->bX r<=aS rs
 |a::rs,h=>by
  rw[aS];rcases cT.1 h with rfl|h
  ·omega
  ·have:=dM h;omega
def awk(z i:Nat)(R rows:List (List D)):Prop:=R.length=rows.length/\(∀r∈R,r.length=z)/\∀j,j<i->R[j]? =rows[j]?
def encS(s:List UInt8):List D:=[.s s]
def encI(n:Int):List D:=[.i .i64 n]
inductive ak where
 |mk (aN:Int) (fName:List UInt8) (fArgs:List ak)
def ak.aN:ak->Int| .mk x _ _=>x
def ak.fName:ak->List UInt8| .mk _ x _=>x
def ak.fArgs:ak->List ak| .mk _ _ x=>x
theorem ak.eta(x:ak):ak.mk x.aN x.fName x.fArgs=x:=by cases x;rfl
theorem ak.ext{x y:ak}(h0:x.aN=y.aN)(h1:x.fName=y.fName)(h2:x.fArgs=y.fArgs):x=y:=by
 rw[<-ak.eta x,<-ak.eta y,h0,h1,h2]
mutual
def ak.enc:ak->List D
 | .mk a0 a1 a2=>[.i .i64 a0,.s a1,.sl (ak.encs a2)]
def ak.encs:List ak->List (List D)
 |[]=>[]
 |x::xs=>x.enc::ak.encs xs
end
theorem ak.oz:∀l,ak.encs l=l.map ak.enc
 |[]=>rfl
 |x::xs=>by rw[ak.encs,af,ak.oz xs]
theorem ak.aC(x:ak):x.enc=[.i .i64 x.aN,.s x.fName,.sl (x.fArgs.map ak.enc)]:=by
 cases x;simp only[ak.enc,ak.oz,ak.aN,ak.fName,ak.fArgs]
abbrev ak.v(x:ak):V:=.agg [.d (.i .i64 x.aN),.d (.s x.fName),.d (.sl (x.fArgs.map ak.enc))]
theorem ak.dK(x:ak):x.enc.length=3:=by
 simp only[ak.aC,ae,aa,al]
def ak.sz(x:ak):Nat:=bX x.enc
theorem ak.dY(x:ak):bX x.enc=x.sz:=rfl
theorem ak.jF(x:ak):SizeOf.sizeOf x.fArgs<SizeOf.sizeOf x:=by cases x;simp[ak.fArgs];omega
structure jT where
 fVar:List UInt8
 fType:ak
def jT.enc(x:jT):List D:=[.s x.fVar]++(x.fType.enc)
theorem jT.aC(x:jT):x.enc=[.s x.fVar]++(x.fType.enc):=rfl
abbrev jT.v(x:jT):V:=.agg [.d (.s x.fVar),.d (.i .i64 x.fType.aN),.d (.s x.fType.fName),.d (.sl (x.fType.fArgs.map ak.enc))]
theorem jT.dK(x:jT):x.enc.length=4:=by
 simp only[jT.aC,ak.dK,ae,aa,al]
def jT.sz(x:jT):Nat:=bX x.enc
structure bQ where
 bO:List UInt8
 fType:ak
def bQ.enc(x:bQ):List D:=[.s x.bO]++(x.fType.enc)
theorem bQ.aC(x:bQ):x.enc=[.s x.bO]++(x.fType.enc):=rfl
abbrev bQ.v(x:bQ):V:=.agg [.d (.s x.bO),.d (.i .i64 x.fType.aN),.d (.s x.fType.fName),.d (.sl (x.fType.fArgs.map ak.enc))]
theorem bQ.dK(x:bQ):x.enc.length=4:=by
 simp only[bQ.aC,ak.dK,ae,aa,al]
def bQ.sz(x:bQ):Nat:=bX x.enc
mutual
inductive au where
 |mk (aN:Int) (bO:List UInt8) (fName:List UInt8) (fN:Int) (fType:ak) (fArgs:List au) (aX:List bq)
inductive bq where
 |mk (dV:List UInt8) (aG:List (List UInt8)) (fBody:au)
end
def au.aN:au->Int| .mk x _ _ _ _ _ _=>x
def au.bO:au->List UInt8| .mk _ x _ _ _ _ _=>x
def au.fName:au->List UInt8| .mk _ _ x _ _ _ _=>x
def au.fN:au->Int| .mk _ _ _ x _ _ _=>x
def au.fType:au->ak| .mk _ _ _ _ x _ _=>x
def au.fArgs:au->List au| .mk _ _ _ _ _ x _=>x
def au.aX:au->List bq| .mk _ _ _ _ _ _ x=>x
theorem au.eta(x:au):au.mk x.aN x.bO x.fName x.fN x.fType x.fArgs x.aX=x:=by cases x;rfl
theorem au.ext{x y:au}(h0:x.aN=y.aN)(h1:x.bO=y.bO)(h2:x.fName=y.fName)(h3:x.fN=y.fN)(h4:x.fType=y.fType)(h5:x.fArgs=y.fArgs)(h6:x.aX=y.aX):x=y:=by
 rw[<-au.eta x,<-au.eta y,h0,h1,h2,h3,h4,h5,h6]
def bq.dV:bq->List UInt8| .mk x _ _=>x
def bq.aG:bq->List (List UInt8)| .mk _ x _=>x
def bq.fBody:bq->au| .mk _ _ x=>x
theorem bq.eta(x:bq):bq.mk x.dV x.aG x.fBody=x:=by cases x;rfl
theorem bq.ext{x y:bq}(h0:x.dV=y.dV)(h1:x.aG=y.aG)(h2:x.fBody=y.fBody):x=y:=by
 rw[<-bq.eta x,<-bq.eta y,h0,h1,h2]
mutual
def au.enc:au->List D
 | .mk a0 a1 a2 a3 a4 a5 a6=>[.i .i64 a0,.s a1,.s a2,.i .i64 a3]++(a4.enc++([.sl (au.encs a5),.sl (bq.encs a6)]))
def au.encs:List au->List (List D)
 |[]=>[]
 |x::xs=>x.enc::au.encs xs
def bq.enc:bq->List D
 | .mk a0 a1 a2=>[.s a0,.sl (a1.map encS)]++(au.enc a2)
def bq.encs:List bq->List (List D)
 |[]=>[]
 |x::xs=>x.enc::bq.encs xs
end
theorem au.oz:∀l,au.encs l=l.map au.enc
 |[]=>rfl
 |x::xs=>by rw[au.encs,af,au.oz xs]
theorem bq.oz:∀l,bq.encs l=l.map bq.enc
 |[]=>rfl
 |x::xs=>by rw[bq.encs,af,bq.oz xs]
theorem au.aC(x:au):x.enc=[.i .i64 x.aN,.s x.bO,.s x.fName,.i .i64 x.fN]++(x.fType.enc++([.sl (x.fArgs.map au.enc),.sl (x.aX.map bq.enc)])):=by
 cases x;simp only[au.enc,au.oz,bq.oz,au.aN,au.bO,au.fName,au.fN,au.fType,au.fArgs,au.aX]
theorem bq.aC(x:bq):x.enc=[.s x.dV,.sl (x.aG.map encS)]++(x.fBody.enc):=by
 cases x;simp only[bq.enc,au.oz,bq.oz,bq.dV,bq.aG,bq.fBody]
abbrev au.v(x:au):V:=.agg [.d (.i .i64 x.aN),.d (.s x.bO),.d (.s x.fName),.d (.i .i64 x.fN),.d (.i .i64 x.fType.aN),.d (.s x.fType.fName),.d (.sl (x.fType.fArgs.map ak.enc)),.d (.sl (x.fArgs.map au.enc)),.d (.sl (x.aX.map bq.enc))]
theorem au.dK(x:au):x.enc.length=9:=by
 simp only[au.aC,ak.dK,ae,aa,al]
def au.sz(x:au):Nat:=bX x.enc
theorem au.dY(x:au):bX x.enc=x.sz:=rfl
theorem au.jF(x:au):SizeOf.sizeOf x.fArgs<SizeOf.sizeOf x:=by cases x;simp[au.fArgs];omega
theorem au.xG(x:au):SizeOf.sizeOf x.aX<SizeOf.sizeOf x:=by cases x;simp[au.aX];omega
abbrev bq.v(x:bq):V:=.agg [.d (.s x.dV),.d (.sl (x.aG.map encS)),.d (.i .i64 x.fBody.aN),.d (.s x.fBody.bO),.d (.s x.fBody.fName),.d (.i .i64 x.fBody.fN),.d (.i .i64 x.fBody.fType.aN),.d (.s x.fBody.fType.fName),.d (.sl (x.fBody.fType.fArgs.map ak.enc)),.d (.sl (x.fBody.fArgs.map au.enc)),.d (.sl (x.fBody.aX.map bq.enc))]
theorem bq.dK(x:bq):x.enc.length=11:=by
 simp only[bq.aC,au.dK,ae,aa,al]
def bq.sz(x:bq):Nat:=bX x.enc
theorem bq.dY(x:bq):bX x.enc=x.sz:=rfl
theorem bq.vN(x:bq):SizeOf.sizeOf x.fBody<SizeOf.sizeOf x:=by cases x;simp[bq.fBody];omega
inductive ah where
 |mk (aI:List UInt8) (aj:List ah)
def ah.aI:ah->List UInt8| .mk x _=>x
def ah.aj:ah->List ah| .mk _ x=>x
theorem ah.eta(x:ah):ah.mk x.aI x.aj=x:=by cases x;rfl
theorem ah.ext{x y:ah}(h0:x.aI=y.aI)(h1:x.aj=y.aj):x=y:=by
 rw[<-ah.eta x,<-ah.eta y,h0,h1]
mutual
def ah.enc:ah->List D
 | .mk a0 a1=>[.s a0,.sl (ah.encs a1)]
def ah.encs:List ah->List (List D)
 |[]=>[]
 |x::xs=>x.enc::ah.encs xs
end
theorem ah.oz:∀l,ah.encs l=l.map ah.enc
 |[]=>rfl
 |x::xs=>by rw[ah.encs,af,ah.oz xs]
theorem ah.aC(x:ah):x.enc=[.s x.aI,.sl (x.aj.map ah.enc)]:=by
 cases x;simp only[ah.enc,ah.oz,ah.aI,ah.aj]
abbrev ah.v(x:ah):V:=.agg [.d (.s x.aI),.d (.sl (x.aj.map ah.enc))]
theorem ah.Ml(x:ah): .agg (x.enc.map .d)=x.v:=by
 simp only[ah.aC,af,aw,ba,bc,bw]
theorem ah.dK(x:ah):x.enc.length=2:=by
 simp only[ah.aC,ae,aa,al]
def ah.sz(x:ah):Nat:=bX x.enc
theorem ah.vO(x:ah):SizeOf.sizeOf x.aj<SizeOf.sizeOf x:=by cases x;simp[ah.aj];omega
structure bg where
 fName:List UInt8
 bG:List ak
 dh:ak
 ji:Bool
 aG:List (List UInt8)
 fBody:au
def bg.enc(x:bg):List D:=[.s x.fName,.sl (x.bG.map ak.enc)]++(x.dh.enc++([.b x.ji,.sl (x.aG.map encS)]++(x.fBody.enc)))
theorem bg.aC(x:bg):x.enc=[.s x.fName,.sl (x.bG.map ak.enc)]++(x.dh.enc++([.b x.ji,.sl (x.aG.map encS)]++(x.fBody.enc))):=rfl
abbrev bg.v(x:bg):V:=.agg [.d (.s x.fName),.d (.sl (x.bG.map ak.enc)),.d (.i .i64 x.dh.aN),.d (.s x.dh.fName),.d (.sl (x.dh.fArgs.map ak.enc)),.d (.b x.ji),.d (.sl (x.aG.map encS)),.d (.i .i64 x.fBody.aN),.d (.s x.fBody.bO),.d (.s x.fBody.fName),.d (.i .i64 x.fBody.fN),.d (.i .i64 x.fBody.fType.aN),.d (.s x.fBody.fType.fName),.d (.sl (x.fBody.fType.fArgs.map ak.enc)),.d (.sl (x.fBody.fArgs.map au.enc)),.d (.sl (x.fBody.aX.map bq.enc))]
theorem bg.dK(x:bg):x.enc.length=16:=by
 simp only[bg.aC,au.dK,ak.dK,ae,aa,al]
def bg.sz(x:bg):Nat:=bX x.enc
structure bI where
 fName:List UInt8
 bU:List (List UInt8)
 pR:Bool
 bP:Bool
 aA:List bg
def bI.enc(x:bI):List D:=[.s x.fName,.sl (x.bU.map encS),.b x.pR,.b x.bP,.sl (x.aA.map bg.enc)]
theorem bI.aC(x:bI):x.enc=[.s x.fName,.sl (x.bU.map encS),.b x.pR,.b x.bP,.sl (x.aA.map bg.enc)]:=rfl
abbrev bI.v(x:bI):V:=.agg [.d (.s x.fName),.d (.sl (x.bU.map encS)),.d (.b x.pR),.d (.b x.bP),.d (.sl (x.aA.map bg.enc))]
theorem bI.Ml(x:bI): .agg (x.enc.map .d)=x.v:=by
 simp only[bI.aC,af,aw,ba,bc,bw]
theorem bI.dK(x:bI):x.enc.length=5:=by
 simp only[bI.aC,ae,aa,al]
def bI.sz(x:bI):Nat:=bX x.enc
theorem bI.dY(x:bI):bX x.enc=x.sz:=rfl
structure bF where
 fName:List UInt8
 iq:List ak
def bF.enc(x:bF):List D:=[.s x.fName,.sl (x.iq.map ak.enc)]
theorem bF.aC(x:bF):x.enc=[.s x.fName,.sl (x.iq.map ak.enc)]:=rfl
abbrev bF.v(x:bF):V:=.agg [.d (.s x.fName),.d (.sl (x.iq.map ak.enc))]
theorem bF.dK(x:bF):x.enc.length=2:=by
 simp only[bF.aC,ae,aa,al]
def bF.sz(x:bF):Nat:=bX x.enc
structure aU where
 fName:List UInt8
 aG:List (List UInt8)
 aF:List bF
def aU.enc(x:aU):List D:=[.s x.fName,.sl (x.aG.map encS),.sl (x.aF.map bF.enc)]
theorem aU.aC(x:aU):x.enc=[.s x.fName,.sl (x.aG.map encS),.sl (x.aF.map bF.enc)]:=rfl
abbrev aU.v(x:aU):V:=.agg [.d (.s x.fName),.d (.sl (x.aG.map encS)),.d (.sl (x.aF.map bF.enc))]
theorem aU.dK(x:aU):x.enc.length=3:=by
 simp only[aU.aC,ae,aa,al]
def aU.sz(x:aU):Nat:=bX x.enc
theorem aU.dY(x:aU):bX x.enc=x.sz:=rfl
structure cO where
 fName:List UInt8
 aG:List (List UInt8)
 fBody:au
def cO.enc(x:cO):List D:=[.s x.fName,.sl (x.aG.map encS)]++(x.fBody.enc)
theorem cO.aC(x:cO):x.enc=[.s x.fName,.sl (x.aG.map encS)]++(x.fBody.enc):=rfl
abbrev cO.v(x:cO):V:=.agg [.d (.s x.fName),.d (.sl (x.aG.map encS)),.d (.i .i64 x.fBody.aN),.d (.s x.fBody.bO),.d (.s x.fBody.fName),.d (.i .i64 x.fBody.fN),.d (.i .i64 x.fBody.fType.aN),.d (.s x.fBody.fType.fName),.d (.sl (x.fBody.fType.fArgs.map ak.enc)),.d (.sl (x.fBody.fArgs.map au.enc)),.d (.sl (x.fBody.aX.map bq.enc))]
theorem cO.dK(x:cO):x.enc.length=11:=by
 simp only[cO.aC,au.dK,ae,aa,al]
def cO.sz(x:cO):Nat:=bX x.enc
structure aQ where
 bO:List UInt8
 aG:List (List UInt8)
 cB:ak
 dJ:List bQ
 ig:Bool
 fu:Bool
 bP:ak
 aP:List cO
def aQ.enc(x:aQ):List D:=[.s x.bO,.sl (x.aG.map encS)]++(x.cB.enc++([.sl (x.dJ.map bQ.enc),.b x.ig,.b x.fu]++(x.bP.enc++([.sl (x.aP.map cO.enc)]))))
theorem aQ.aC(x:aQ):x.enc=[.s x.bO,.sl (x.aG.map encS)]++(x.cB.enc++([.sl (x.dJ.map bQ.enc),.b x.ig,.b x.fu]++(x.bP.enc++([.sl (x.aP.map cO.enc)])))):=rfl
abbrev aQ.v(x:aQ):V:=.agg [.d (.s x.bO),.d (.sl (x.aG.map encS)),.d (.i .i64 x.cB.aN),.d (.s x.cB.fName),.d (.sl (x.cB.fArgs.map ak.enc)),.d (.sl (x.dJ.map bQ.enc)),.d (.b x.ig),.d (.b x.fu),.d (.i .i64 x.bP.aN),.d (.s x.bP.fName),.d (.sl (x.bP.fArgs.map ak.enc)),.d (.sl (x.aP.map cO.enc))]
theorem aQ.dK(x:aQ):x.enc.length=12:=by
 simp only[aQ.aC,ak.dK,ae,aa,al]
def aQ.sz(x:aQ):Nat:=bX x.enc
theorem aQ.dY(x:aQ):bX x.enc=x.sz:=rfl
structure dz where
 fName:List UInt8
 fType:ak
def dz.enc(x:dz):List D:=[.s x.fName]++(x.fType.enc)
theorem dz.aC(x:dz):x.enc=[.s x.fName]++(x.fType.enc):=rfl
abbrev dz.v(x:dz):V:=.agg [.d (.s x.fName),.d (.i .i64 x.fType.aN),.d (.s x.fType.fName),.d (.sl (x.fType.fArgs.map ak.enc))]
theorem dz.dK(x:dz):x.enc.length=4:=by
 simp only[dz.aC,ak.dK,ae,aa,al]
def dz.sz(x:dz):Nat:=bX x.enc
structure aV where
 fName:List UInt8
 aG:List (List UInt8)
 dJ:List bQ
 bG:List dz
 dh:ak
 fBody:au
def aV.enc(x:aV):List D:=[.s x.fName,.sl (x.aG.map encS),.sl (x.dJ.map bQ.enc),.sl (x.bG.map dz.enc)]++(x.dh.enc++(x.fBody.enc))
theorem aV.aC(x:aV):x.enc=[.s x.fName,.sl (x.aG.map encS),.sl (x.dJ.map bQ.enc),.sl (x.bG.map dz.enc)]++(x.dh.enc++(x.fBody.enc)):=rfl
abbrev aV.v(x:aV):V:=.agg [.d (.s x.fName),.d (.sl (x.aG.map encS)),.d (.sl (x.dJ.map bQ.enc)),.d (.sl (x.bG.map dz.enc)),.d (.i .i64 x.dh.aN),.d (.s x.dh.fName),.d (.sl (x.dh.fArgs.map ak.enc)),.d (.i .i64 x.fBody.aN),.d (.s x.fBody.bO),.d (.s x.fBody.fName),.d (.i .i64 x.fBody.fN),.d (.i .i64 x.fBody.fType.aN),.d (.s x.fBody.fType.fName),.d (.sl (x.fBody.fType.fArgs.map ak.enc)),.d (.sl (x.fBody.fArgs.map au.enc)),.d (.sl (x.fBody.aX.map bq.enc))]
theorem aV.dK(x:aV):x.enc.length=16:=by
 simp only[aV.aC,au.dK,ak.dK,ae,aa,al]
def aV.sz(x:aV):Nat:=bX x.enc
theorem aV.dY(x:aV):bX x.enc=x.sz:=rfl
structure aT where
 fName:List UInt8
 eY:List (List UInt8)
 aJ:List bI
 ay:List aU
 aH:List aQ
 aM:List aV
def aT.enc(x:aT):List D:=[.s x.fName,.sl (x.eY.map encS),.sl (x.aJ.map bI.enc),.sl (x.ay.map aU.enc),.sl (x.aH.map aQ.enc),.sl (x.aM.map aV.enc)]
theorem aT.aC(x:aT):x.enc=[.s x.fName,.sl (x.eY.map encS),.sl (x.aJ.map bI.enc),.sl (x.ay.map aU.enc),.sl (x.aH.map aQ.enc),.sl (x.aM.map aV.enc)]:=rfl
theorem aT.eta(x:aT):aT.mk x.fName x.eY x.aJ x.ay x.aH x.aM=x:=rfl
abbrev aT.v(x:aT):V:=.agg [.d (.s x.fName),.d (.sl (x.eY.map encS)),.d (.sl (x.aJ.map bI.enc)),.d (.sl (x.ay.map aU.enc)),.d (.sl (x.aH.map aQ.enc)),.d (.sl (x.aM.map aV.enc))]
theorem aT.dK(x:aT):x.enc.length=6:=by
 simp only[aT.aC,ae,aa,al]
def aT.sz(x:aT):Nat:=bX x.enc
structure nO where
 DY:List aT
def nO.enc(x:nO):List D:=[.sl (x.DY.map aT.enc)]
theorem nO.aC(x:nO):x.enc=[.sl (x.DY.map aT.enc)]:=rfl
abbrev nO.v(x:nO):V:=.agg [.d (.sl (x.DY.map aT.enc))]
theorem nO.dK(x:nO):x.enc.length=1:=by
 simp only[nO.aC,ae,aa,al]
def nO.sz(x:nO):Nat:=bX x.enc
structure jy where
 PV:Int
 fAt:Int
def jy.enc(x:jy):List D:=[.i .i64 x.PV,.i .i64 x.fAt]
theorem jy.aC(x:jy):x.enc=[.i .i64 x.PV,.i .i64 x.fAt]:=rfl
abbrev jy.v(x:jy):V:=.agg [.d (.i .i64 x.PV),.d (.i .i64 x.fAt)]
theorem jy.dK(x:jy):x.enc.length=2:=by
 simp only[jy.aC,ae,aa,al]
def jy.sz(x:jy):Nat:=bX x.enc
attribute [go_sem] ak.aC jT.aC bQ.aC au.aC bq.aC ah.aC bg.aC bI.aC bF.aC aU.aC cO.aC aQ.aC dz.aC aV.aC aT.aC nO.aC jy.aC encS encI
def acO:List jT->List UInt8->Option ak
 |[],_=>none
 |b::bs,v=>if b.fVar=v then some b.fType else acO bs v
mutual
noncomputable def aqU(s:List jT):ak->ak->Option (List jT)
 | .mk k n a,t=>
   if k=1 then
    match acO s n with
    |some u=>if dec (u=t)=true then some s else none
    |none=>some (s++[⟨n,t⟩])
   else if k=t.aN/\n=t.fName/\a.length=t.fArgs.length then ahS s a t.fArgs else none
noncomputable def ahS(s:List jT):List ak->List ak->Option (List jT)
 |[],_=>some s
 |_::_,[]=>none
 |p::ps,t::ts=>
  match aqU s p t with
  |some s'=>ahS s' ps ts
  |none=>none
end
mutual
def ak.cnt:ak->Nat
 | .mk _ _ a=>1+ak.fq a
def ak.fq:List ak->Nat
 |[]=>0
 |t::ts=>t.cnt+ak.fq ts
end
theorem ak.rW(t:ak):t.cnt=1+ak.fq t.fArgs:=by cases t;rw[ak.cnt];rfl
mutual
theorem nC:∀t:ak,t.cnt<=1+t.sz
 | .mk k n a=>by
   have h:=Au a;rw[ak.cnt]
   have e:(ak.mk k n a).sz=n.length+(a.length+aS (a.map ak.enc)):=by
    simp only[ak.sz,ak.aC,bX,D.sz,ab,ak.fName,ak.fArgs,cR,cG]
   omega
theorem Au:∀ts:List ak,ak.fq ts<=ts.length+aS (ts.map ak.enc)
 |[]=>by simp[ak.fq]
 |t::ts=>by
  have h1:=nC t;have h2:=Au ts;rw[ak.fq,aa,af,aS,ak.dY];omega
end
def Small(s:List jT):Prop:=∀b∈s,b.fType.sz<=4194304
end Go.Ab
namespace Go.Proofs.YtnmjbebcebbmfaaGreatDoor.Fa
open Go Go.Ab
abbrev gq(t c b:Nat)(z:List C):Prop:=prog.cellsOf t=c/\prog.bytesOf t=b/\(prog.info? t).isSome=true/\j5 prog t=some z
theorem gy{t c b:Nat}{z:List C}(h1:prog.cellsOf t=c:=by kernel_rfl)(h2:prog.bytesOf t=b:=by kernel_rfl)(h3:(prog.info? t).isSome=true:=by kernel_rfl)(h4:j5 prog t=some z:=by kernel_rfl):gq t c b z:=⟨h1,h2,h3,h4⟩
theorem ty1:gq 1 1 8 [.d (.o .nilFunc)]:=gy
theorem ty2:gq 2 1 8 [.d (.i .i64 0)]:=gy
theorem ty3:gq 3 1 8 [.d (.i .i64 0)]:=gy
theorem ty4:gq 4 1 1 [.d (.b false)]:=gy
theorem asW:zeroV prog 4=some (.bool false):=by kernel_rfl
theorem ty5:gq 5 1 1 [.d (.i .u8 0)]:=gy
theorem ty9:gq 9 1 16 [.d (.s [])]:=gy
theorem auD:gq 12 1 8 [.d (.i .u64 0)]:=gy
theorem auE:gq 20 1 16 [.d (.o .nilIface)]:=gy
theorem auF:gq 21 1 4 [.d (.i .i32 0)]:=gy
theorem auG:gq 22 1 24 [.bH []]:=gy
theorem auH:gq 23 1 8 [.d (.o .nilFunc)]:=gy
theorem auI:gq 24 1 24 [.bH []]:=gy
theorem auJ:gq 25 2 40 [.d (.s []),.bH []]:=gy
theorem auK:gq 26 2 40 [.d (.s []),.bH []]:=gy
theorem auL:gq 27 1 8 [.d (.o .nilFunc)]:=gy
theorem auM:gq 28 1 24 [.bH []]:=gy
theorem auN:gq 29 1 24 [.bH []]:=gy
theorem auO:gq 30 1 24 [.bH []]:=gy
theorem auP:gq 31 1 24 [.bH []]:=gy
theorem auQ:gq 32 1 24 [.bH []]:=gy
theorem auR:gq 34 6 136 [.d (.s []),.bH [],.bH [],.bH [],.bH [],.bH []]:=gy
theorem auS:gq 36 1 8 [.d (.o .nilFunc)]:=gy
theorem auT:gq 37 1 8 [.d (.o .nilFunc)]:=gy
theorem auU:gq 38 1 8 [.d (.o .nilFunc)]:=gy
theorem auV:gq 39 1 8 [.d (.o .nilFunc)]:=gy
theorem auW:gq 40 1 8 [.d (.o (.pointer none))]:=gy
theorem auX:gq 41 1 8 [.d (.o .nilFunc)]:=gy
theorem auY:gq 42 1 8 [.d (.o .nilFunc)]:=gy
theorem auZ:gq 43 1 8 [.d (.o .nilFunc)]:=gy
theorem au0:gq 44 1 8 [.d (.o .nilFunc)]:=gy
theorem au1:gq 48 1 8 [.d (.o .nilFunc)]:=gy
theorem au2:gq 49 1 8 [.d (.o .nilFunc)]:=gy
theorem au3:gq 51 1 8 [.d (.o .nilFunc)]:=gy
theorem au4:gq 52 1 8 [.d (.o .nilFunc)]:=gy
theorem au5:gq 53 1 8 [.d (.o .nilFunc)]:=gy
theorem au6:gq 54 1 8 [.d (.o .nilFunc)]:=gy
theorem au7:gq 55 1 8 [.d (.o (.pointer none))]:=gy
theorem au8:gq 56 1 8 [.d (.o .nilFunc)]:=gy
theorem au9:gq 57 1 8 [.d (.o .nilFunc)]:=gy
theorem ava:gq 58 1 8 [.d (.o .nilFunc)]:=gy
theorem avb:gq 62 1 24 [.bH []]:=gy
theorem avc:gq 63 1 24 [.bH []]:=gy
theorem avd:gq 64 5 72 [.d (.s []),.bH [],.d (.b false),.d (.b false),.bH []]:=gy
theorem ave:gq 65 5 72 [.d (.s []),.bH [],.d (.b false),.d (.b false),.bH []]:=gy
theorem avf:gq 66 1 8 [.d (.o .nilFunc)]:=gy
theorem avg:gq 67 1 24 [.bH []]:=gy
theorem avh:gq 68 3 64 [.d (.s []),.bH [],.bH []]:=gy
theorem avi:gq 69 3 64 [.d (.s []),.bH [],.bH []]:=gy
theorem avj:gq 70 1 8 [.d (.o .nilFunc)]:=gy
theorem avk:gq 71 1 24 [.bH []]:=gy
theorem avl:gq 73 3 48 [.d (.i .i64 0),.d (.s []),.bH []]:=gy
theorem avm:gq 74 1 24 [.bH []]:=gy
theorem avn:gq 75 1 24 [.bH []]:=gy
theorem avo:gq 77 12 192 [.d (.s []),.bH [],.d (.i .i64 0),.d (.s []),.bH [],.bH [],.d (.b false),.d (.b false),.d (.i .i64 0),.d (.s []),.bH [],.bH []]:=gy
theorem avp:gq 79 1 24 [.bH []]:=gy
theorem avq:gq 80 1 24 [.bH []]:=gy
theorem avr:gq 81 1 24 [.bH []]:=gy
theorem avs:gq 82 9 144 [.d (.i .i64 0),.d (.s []),.d (.s []),.d (.i .i64 0),.d (.i .i64 0),.d (.s []),.bH [],.bH [],.bH []]:=gy
theorem avt:gq 83 9 144 [.d (.i .i64 0),.d (.s []),.d (.s []),.d (.i .i64 0),.d (.i .i64 0),.d (.s []),.bH [],.bH [],.bH []]:=gy
theorem avu:gq 84 16 280 [.d (.s []),.bH [],.bH [],.bH [],.d (.i .i64 0),.d (.s []),.bH [],.d (.i .i64 0),.d (.s []),.d (.s []),.d (.i .i64 0),.d (.i .i64 0),.d (.s []),.bH [],.bH [],.bH []]:=gy
theorem avv:gq 85 16 280 [.d (.s []),.bH [],.bH [],.bH [],.d (.i .i64 0),.d (.s []),.bH [],.d (.i .i64 0),.d (.s []),.d (.s []),.d (.i .i64 0),.d (.i .i64 0),.d (.s []),.bH [],.bH [],.bH []]:=gy
theorem avw:gq 88 3 40 [.bH [],.d (.i .i64 0),.d (.i .i64 0)]:=gy
theorem avx:gq 91 1 8 [.d (.o .nilFunc)]:=gy
theorem avy:gq 92 1 8 [.d (.o .nilFunc)]:=gy
theorem avz:gq 93 1 8 [.d (.o .nilFunc)]:=gy
theorem avA:gq 95 1 8 [.d (.o .nilFunc)]:=gy
theorem avB:gq 96 1 8 [.d (.o .nilFunc)]:=gy
theorem avC:gq 97 1 8 [.d (.o .nilFunc)]:=gy
theorem asX:gq 103 1 8 [.d (.o (.pointer none))]:=gy
theorem asY:gq 105 5 48 [.d (.s []),.d (.i .i64 0),.d (.i .i64 0),.d (.i .i64 0),.d (.b false)]:=gy
theorem asZ:gq 125 1 8 [.d (.o (.pointer none))]:=gy
theorem as0:gq 127 2 32 [.d (.o (.pointer none)),.bH []]:=gy
theorem as1:gq 128 1 8 [.d (.o .nilFunc)]:=gy
theorem as2:gq 129 1 8 [.d (.o .nilFunc)]:=gy
theorem as3:gq 130 1 24 [.bH []]:=gy
theorem as4:gq 133 4 96 [.bH [],.bH [],.bH [],.bH []]:=gy
theorem as5:gq 136 16 264 [.d (.s []),.bH [],.d (.i .i64 0),.d (.s []),.bH [],.d (.b false),.bH [],.d (.i .i64 0),.d (.s []),.d (.s []),.d (.i .i64 0),.d (.i .i64 0),.d (.s []),.bH [],.bH [],.bH []]:=gy
theorem as6:gq 139 2 40 [.d (.s []),.bH []]:=gy
theorem as7:gq 142 1 8 [.d (.o .nilFunc)]:=gy
theorem as8:gq 147 11 184 [.d (.s []),.bH [],.d (.i .i64 0),.d (.s []),.d (.s []),.d (.i .i64 0),.d (.i .i64 0),.d (.s []),.bH [],.bH [],.bH []]:=gy
theorem as9:gq 157 4 64 [.d (.s []),.d (.i .i64 0),.d (.s []),.bH []]:=gy
theorem ata:gq 167 4 64 [.d (.s []),.d (.i .i64 0),.d (.s []),.bH []]:=gy
theorem atb:gq 180 1 16 [.d (.o .nilIface)]:=gy
theorem atc:gq 184 1 8 [.d (.o (.pointer none))]:=gy
theorem atd:gq 186 1 8 [.d (.o (.map none))]:=gy
theorem ate:gq 188 1 8 [.d (.o .nilFunc)]:=gy
theorem atf:gq 191 1 8 [.d (.o .nilFunc)]:=gy
theorem atg:gq 194 1 8 [.d (.o .nilFunc)]:=gy
theorem ath:gq 199 11 184 [.d (.s []),.bH [],.d (.i .i64 0),.d (.s []),.d (.s []),.d (.i .i64 0),.d (.i .i64 0),.d (.s []),.bH [],.bH [],.bH []]:=gy
theorem ati:gq 212 1 8 [.d (.o .nilFunc)]:=gy
theorem atj:gq 226 1 8 [.d (.o .nilFunc)]:=gy
theorem atl:gq 229 1 8 [.d (.o .nilFunc)]:=gy
theorem atm:gq 232 1 8 [.d (.o .nilFunc)]:=gy
theorem atn:gq 246 1 24 [.bH []]:=gy
theorem laidOut:laidOutB prog=true:=by kernel_rfl
theorem own:ownKnob prog.godebug=none:=by kernel_rfl
attribute [go_sem] ty1 underlying1 ty2 underlying2 ty3 underlying3 ty4 underlying4 asW ty5 underlying5 ty9 underlying9 auD underlying12 auE underlying20 auF underlying21 auG underlying22 auH underlying23 auI underlying24 auJ underlying25 auK underlying26 auL underlying27 auM underlying28 auN underlying29 auO underlying30 auP underlying31 auQ underlying32 auR underlying34 auS underlying36 auT underlying37 auU underlying38 auV underlying39 auW underlying40 auX underlying41 auY underlying42 auZ underlying43 au0 underlying44 au1 underlying48 au2 underlying49 au3 underlying51 au4 underlying52 au5 underlying53 au6 underlying54 au7 underlying55 au8 underlying56 au9 underlying57 ava underlying58 avb underlying62 avc underlying63 avd underlying64 ave underlying65 avf underlying66 avg underlying67 avh underlying68 avi underlying69 avj underlying70 avk underlying71 avl underlying73 avm underlying74 avn underlying75 avo underlying77 avp underlying79 avq underlying80 avr underlying81 avs underlying82 avt underlying83 avu underlying84 avv underlying85 avw underlying88 avx underlying91 avy underlying92 avz underlying93 avA underlying95 avB underlying96 avC underlying97 asX underlying103 asY underlying105 asZ underlying125 as0 underlying127 as1 underlying128 as2 underlying129 as3 underlying130 as4 underlying133 as5 underlying136 as6 underlying139 as7 underlying142 as8 underlying147 as9 underlying157 ata underlying167 atb underlying180 atc underlying184 atd underlying186 ate underlying188 atf underlying191 atg underlying194 ath underlying199 ati underlying212 atj underlying226 atl underlying229 atm underlying232 atn underlying246
end Go.Proofs.YtnmjbebcebbmfaaGreatDoor.Fa
namespace Go.Ab
mutual
def au.cnt:au->Nat
 | .mk _ _ _ _ _ a b=>1+(au.fq a+bq.fq b)
def au.fq:List au->Nat
 |[]=>0
 |x::xs=>x.cnt+au.fq xs
def bq.cnt:bq->Nat
 | .mk _ _ b=>b.cnt
def bq.fq:List bq->Nat
 |[]=>0
 |x::xs=>x.cnt+bq.fq xs
end
theorem au.rW(x:au):x.cnt=1+(au.fq x.fArgs+bq.fq x.aX):=by cases x;rw[au.cnt];rfl
theorem bq.rW(x:bq):x.cnt=x.fBody.cnt:=by cases x;rw[bq.cnt];rfl
theorem au.nS{xs:List au}{i:Nat}(hi:i<xs.length):au.fq (xs.drop i)=xs[i].cnt+au.fq (xs.drop (i+1)):=by rw[cb hi,au.fq]
theorem bq.nS{xs:List bq}{i:Nat}(hi:i<xs.length):bq.fq (xs.drop i)=xs[i].fBody.cnt+bq.fq (xs.drop (i+1)):=by rw[cb hi,bq.fq,bq.rW]
theorem au.Gu(x:au):x.fArgs.length+aS (x.fArgs.map au.enc)<=x.sz/\x.aX.length+aS (x.aX.map bq.enc)<=x.sz:=by
 simp only[au.sz,au.aC,bX,bT,D.sz,ab];omega
theorem bq.Ul(x:bq):x.fBody.sz<=x.sz:=by
 simp only[bq.sz,bq.aC,au.sz,bX,bT,D.sz,ab];omega
mutual
theorem au.nC:∀x:au,x.cnt<=1+x.sz
 | .mk k t n m ty a b=>by
   have h1:=au.Au a;have h2:=bq.Au b;rw[au.cnt];simp only[au.sz,au.aC,bX,bT,D.sz,ab,au.fArgs,au.aX];omega
theorem au.Au:∀xs:List au,au.fq xs<=xs.length+aS (xs.map au.enc)
 |[]=>by simp[au.fq]
 |x::xs=>by
  have h1:=au.nC x;have h2:=au.Au xs;rw[au.fq,aa,af,aS,au.dY];omega
theorem bq.nC:∀x:bq,x.cnt<=1+x.sz
 | .mk c v b=>by
   have h1:=au.nC b;have h2:=bq.Ul (.mk c v b);rw[bq.cnt];simp only[bq.fBody] at h2;omega
theorem bq.Au:∀xs:List bq,bq.fq xs<=xs.length+aS (xs.map bq.enc)
 |[]=>by simp[bq.fq]
 |x::xs=>by
  have h1:=bq.nC x;have h2:=bq.Au xs;rw[bq.fq,aa,af,aS,bq.dY];omega
end
theorem Gv:∀n:Nat,∀x:au,SizeOf.sizeOf x<n->x.sz<=4194304->aD prog 204 [x.v] (.c (.d (.i .i64 x.cnt)))
 |0=>fun x h=>by omega
 |n+1=>by
  have ih:=Gv n;intro x hn hsz S;have kL:=au.jF x;have Fv:=au.xG x;have hp:=au.Gu x;have hc:=au.nC x;have he:=au.rW x;refine zcx [.tmp 2] func204 ntmps204 ?_;refine W1 ?_
  refine aZ (ι:=Nat×Nat) zmx rfl [1,3,9,10,11] (fun y=>[.c (.ptr (0,0) 0),.c (.d (.i .i64 y.2)),.c (.d (.sl (x.fArgs.map au.enc))),.c (.d (.i .i64 x.fArgs.length)),.c (.d (.i .i64 y.1))]) (fun y=>[.box (x.enc.map .d)]::S)
   (fun y=>y.1<=x.fArgs.length/\x.cnt=y.2+au.fq (x.fArgs.drop y.1)+bq.fq x.aX) (fun y=>x.fArgs.length-y.1) (0,1) rfl ?_ ⟨an _,by simp only[cN];omega⟩ ?_
  ·exact Z1
  rintro⟨i,c⟩ ⟨p1,p2⟩;simp only at p1 p2;refine W1 ?_;refine S0 (fun hb h=>?_) fun hb h=>?_
  ·have hi:i<x.fArgs.length:=gA
   have hx:x.fArgs[i].sz<=aS (x.fArgs.map au.enc):=dM (be (ac hi));rw[au.nS hi] at p2;refine W3 ?_;refine C2 (ih x.fArgs[i] (by have:=bh (ac hi);omega) gA) ?_;rw[show(c:Int)+(x.fArgs[i].cnt:Int)=((c+x.fArgs[i].cnt:Nat):Int) by omega];exact bR 1 gE (i+1,c+x.fArgs[i].cnt) gC rfl rfl rfl rfl ⟨gC,gC⟩
  have hi:i=x.fArgs.length:=gA
  rw[hi,cy,au.fq] at p2
  refine aZ (ι:=Nat×Nat) zmx rfl [3,21,22,23] (fun y=>[.c (.d (.i .i64 y.2)),.c (.d (.sl (x.aX.map bq.enc))),.c (.d (.i .i64 x.aX.length)),.c (.d (.i .i64 y.1))]) (fun y=>[.box (x.enc.map .d)]::S)
   (fun y=>y.1<=x.aX.length/\x.cnt=y.2+bq.fq (x.aX.drop y.1)) (fun y=>x.aX.length-y.1) (0,c) rfl ?_ ⟨an _,by simp only[cN];omega⟩ ?_
  ·exact Z1
  clear p1 p2 hb h hi i;rintro⟨i,d⟩ ⟨p1,p2⟩;simp only at p1 p2;refine W1 ?_;refine S0 (fun hb h=>?_) fun hb h=>?_
  ·have hi:i<x.aX.length:=gA
   have hx:x.aX[i].sz<=aS (x.aX.map bq.enc):=dM (be (ac hi));have hy:=bq.Ul x.aX[i];have hs:=bh (ac hi);have hs':=bq.vN x.aX[i];rw[bq.nS hi] at p2;refine W3 ?_;refine C2 (ih x.aX[i].fBody gA gA) ?_;rw[show(d:Int)+(x.aX[i].fBody.cnt:Int)=((d+x.aX[i].fBody.cnt:Nat):Int) by omega];exact bR 1 gE (i+1,d+x.aX[i].fBody.cnt) gC rfl rfl rfl rfl ⟨gC,gC⟩
  ·have hi:i=x.aX.length:=gA
   rw[hi,cy,bq.fq] at p2;exact int_eq gA
theorem Ru(x:au)(hsz:x.sz<=4194304):aD prog 204 [x.v] (.c (.d (.i .i64 x.cnt))):=Gv _ x (cg _) hsz
end Go.Ab