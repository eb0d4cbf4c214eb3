/-
  SEVERAL TEXTS IN ONE (merged by program): contracts and models, each with its own heading.
-/
import Derived.Test.YtnceiannponbjaaGreatDoorPartDjbB
import Derived.Carry
import Derived.WideKeyArgs
import Derived.ProofKit
import Derived.OpenShut
import Derived.WalkKit
import Derived.Test.YtnceiannponbjaaGreatDoorChecked
import Derived.Eval
import Derived.KernelRfl
open Go.Proofs Go.Proofs.Tryz
theorem Go.Ab.zmx:Go.Proofs.Tryz.prog.follows .mixedOrders=true:=Go.Proofs.Tryz.checked.mixed
open Go Go.Ab in
theorem Go.Ab.zcx{N:Nat}{S:Store}{f:FuncId}{fn:Func}{c:Code}{args:List V}{post:V->Store->Prop}(rs:List ResultVar)(hf:Tryz.prog.funcs[f]? =some fn)(hN:fn.ntmps=N)(h:CW Tryz.prog N c (KL Tryz.prog rs post) ⟨jW (args.map (V.up 1)) 0,[]::S⟩)(hb:fn.body=some c:=by exact rfl)(hn:(fn.name== "runtime.NumGoroutine")=false:=by exact rfl)(hr:fn.results.toList=rs:=by exact rfl)(hl:Nat.ble args.length N=true:=by exact rfl)(hok:codeOk N c=true:=by exact rfl):bF Tryz.prog f args S post:=aC (rs:=rs) zmx hf hN hb hn hr hl hok h
set_option linter.unusedSimpArgs false
set_option linter.unusedVariables false
set_option maxRecDepth 4000
namespace Go.Ab
section
variable {P:Program} {S S':Store} {N:Nat} {s:St}
theorem aY{α:Type}{fr:List α}{S:List (List α)}{l j:Nat}:aN (fr::S) (1+l,j)=aN S (l,j):=by rw[Nat.add_comm,bI]
theorem aF{α:Type}{fr:List α}{S:List (List α)}{l j:Nat}{x:α}:aR (fr::S) (1+l,j) x=fr::aR S (l,j) x:=by rw[Nat.add_comm,aR]
theorem afO{n l j:Nat}:xW n (l,j)=(n+l,j):=rfl
theorem Vo{l j:Nat}{es:List (List D)}:C.ret (.bL (1+l,j) es)=some (.bL (l,j) es):=by
 rw[Nat.add_comm];show C.down 1 (.bL (l+1,j) es)=_;simp[C.down]
theorem ret_tsl_0{j:Nat}{es:List (List D)}:C.ret (.bL (0,j) es)=some (.d (.sl es)):=rfl
theorem ahj{x:D}:C.ret (.d x)=some (.d x):=rfl
theorem adX:C.ret .any=some .any:=rfl
theorem adY{es:List (List D)}:C.ret (.bE es)=some (.bE es):=rfl
theorem adZ{n:Nat}{es:List (List D)}:C.ret (.iX n es)=some (.iX n es):=rfl
theorem abh{cs:List D}:C.ret (.jY cs)=some (.jY cs):=rfl
theorem ad2{l j off:Nat}:C.ret (.ptr (1+l,j) off)=some (.ptr (l,j) off):=by
 rw[Nat.add_comm];show C.down 1 (.ptr (l+1,j) off)=_;simp[C.down]
theorem ad3{j:Nat}{es es':List (List D)}{k:Key}:C.kT j es (.bL k es')=.bL k es':=rfl
theorem ahk{x:D}:C.qA (.d x)=.d x:=rfl
theorem ad4:C.qA .any=.any:=rfl
theorem ad5{k:Key}{off:Nat}:C.qA (.ptr k off)=.ptr k off:=rfl
theorem afP{f:Nat}{caps:List (Key×Nat)}:C.qA (.fn f caps)=.fn f caps:=rfl
theorem ad6{k:Key}:C.qA (.gy k)=.gy k:=rfl
theorem abj{cs:List D}:C.qA (.jY cs)=.jY cs:=rfl
theorem ahl{j:Nat}{es:List (List D)}{x:D}:C.kT j es (.d x)=.d x:=rfl
theorem ad7{j:Nat}{es:List (List D)}:C.kT j es .any=.any:=rfl
theorem ad8{j:Nat}{es es':List (List D)}:C.kT j es (.bE es')=.bE es':=rfl
theorem ad9{j:Nat}{es:List (List D)}{k:Key}{off:Nat}:C.kT j es (.ptr k off)=.ptr k off:=rfl
theorem afQ{j:Nat}{es:List (List D)}{f:Nat}{caps:List (Key×Nat)}:C.kT j es (.fn f caps)=.fn f caps:=rfl
theorem aea{j n:Nat}{es es':List (List D)}:C.kT j es (.iX n es')=.iX n es':=rfl
theorem aeb{n:Nat}{es:List (List D)}:C.qA (.iX n es)=.iX n es:=rfl
theorem abk{j:Nat}{es:List (List D)}{cs:List D}:C.kT j es (.jY cs)=.jY cs:=rfl
theorem aec{j i:Nat}{es:List (List D)}:C.kT j es (.gy (0,i))=if i=j then .d (.sl es) else .gy (0,i):=rfl
theorem bF.abl{f:FuncId}(i:Nat){es:List (List D)}{aK:Nat}{args:List V}{post post':V->Store->Prop}(hi:args[i]? =some (.c (.bE es)))(hes:∀e∈es,e.length=aK)
 (h:bF P f ((args.map (V.up 1)).set i (.c (.bL (0,0) es))) ([.tok aK es]::S) post)
 (hp:∀r fr S',post r (fr::S')->∃r',r.ret=some r'/\post' r' S'):bF P f args S post':=by
 refine⟨h.1,fun w σ β vs hS hargs=> ?_⟩;obtain⟨v,hv0,⟨hd,ad,n,hval⟩,hone⟩:=hargs.2 i _ hi
 ·have hn:n=es.length:=by rw[hval] at hd;cases hd<;>rfl
  have hg:Grow w σ w σ:=Grow.refl hS.live
  obtain⟨hS',hk,hst⟩:=hS.up1.push (o:=.tok aK es) (h:=v) hg rfl ⟨hd,hes,ad,n,by rw[hval,hn],by omega,.inl hn⟩ (fun b hb=>by
   rw[hval,hn] at hb
   cases ad<;>simp[owns,blk] at hb)
  have hargs':ni w σ ([.tok aK es]::S) ([v]::β) ((args.map (V.up 1)).set i (.c (.bL (0,0) es))) vs:=by
   refine⟨by have:=hargs.1;simpa using this,fun j x hx=> ?_⟩;rw[List.getElem?_set] at hx;by_cases e:i=j
   ·subst e;rw[if_pos rfl] at hx;split at hx
    ·cases hx;refine⟨v,hv0,⟨hd,.tok aK es,rfl,fun a b e=> ?_⟩,hone⟩;obtain⟨_,rfl⟩:=jd (lab:=none) e;exact⟨Nat.le_refl _,fun _=>rfl⟩
    ·cases hx
   ·rw[if_neg e,List.getElem?_map] at hx
    cases ha:args[j]? with
    |none=>rw[ha] at hx;cases hx
    |some y=>
     rw[ha] at hx;cases hx;obtain⟨u,hu,hr⟩:=hargs.2 j y ha;exact⟨u,hu,EZ (S:=[.tok aK es]::S) (β:=[v]::β) 1 hr⟩
  refine(h.2 w σ ([v]::β) vs hS' hargs').mono fun e w' ⟨v',r,S1,σ',β',he,hS1,hk1,xL,hr1,hpost⟩=> ?_
  have hO:∀b,Own ([.tok aK es]::S) ([v]::β) b->Own S β b:=by
   rintro b ⟨⟨l,j⟩,o,hv,h1,h2,h3⟩
   cases l with
   |zero=>
    rw[aP] at h1 h2
    cases j with
    |zero=>
     cases h1;cases h2;rw[hval,hn] at h3;cases ad<;>simp[owns,blk] at h3
    |succ j=>simp at h1
   |succ l=>rw[bI] at h1 h2;exact⟨(l,j),o,hv,h1,h2,h3⟩
  cases S1 with
  |nil=>
   obtain⟨o',h1,_⟩:=hk1 (0,0) _ rfl;rw[lV] at h1;cases h1
  |cons fr S1=>
   cases β' with
   |nil=>have:=hS1.shape.1;simp at this
   |cons bo bΩ=>
    obtain⟨r',hr',hp'⟩:=hp r fr S1 hpost;refine⟨v',r',S1,σ',bΩ,he,hS1.E5,hk1.drop 1,⟨xL.size,xL.os,xL.output,fun b hb ho=>xL.far b hb (fun x=>ho (hO b x)),xL.near,fun b hb=>(xL.own b (tq hb)).imp (hO b) id⟩,OA hr' hr1,hp'⟩
end
attribute [go_sem] aY aF afO Vo ret_tsl_0 ahj adX adY abh ad2 ad3 ahk ad4 ad5 afP ad6 abj ahl ad7 ad8 ad9 afQ abk aec adZ aea aeb
section
variable {P:Program} {S S':Store} {N:Nat} {s:St}
theorem DW(S:Store)(β:Hs)(k:Key):Keep S β (aR S k .dead) β:=by
 intro k' o ho;by_cases e:k=k'
 ·subst e;exact⟨.dead,bP _ _ _ _ ho,.inl rfl⟩
 ·exact⟨o,by rw[dJ _ _ _ _ e];exact ho,jV.refl _ _⟩
theorem wS{k k':Key}{o:Obj}(h:aN (aR S k .dead) k'=some o):(k=k'/\o=.dead)\/aN S k'=some o:=by
 by_cases e:k=k'
 ·subst e
  cases hg:aN S k with
  |none=>
   have:∀(S:Store)(k:Key),aN S k=none->aR S k .dead=S:=by
    intro S
    induction S with
    |nil=>intro k _;rfl
    |cons fr S ih=>
     rintro⟨l,j⟩ h
     cases l with
     |zero=>
      rw[aP] at h;rw[aR,List.set_eq_of_length_le (List.getElem?_eq_none_iff.1 h)]
     |succ l=>rw[bI] at h;rw[aR,ih _ h]
   rw[this S k hg,hg] at h;cases h
  |some y=>
   rw[bP _ _ _ _ hg] at h;cases h;exact .inl ⟨rfl,rfl⟩
 ·rw[dJ _ _ _ _ e] at h;exact .inr h
theorem O8(x:Obj):∀(S:Store)(k:Key),(aR S k x).length=S.length
 |[],k=>rfl
 |fr::S,(0,j)=>by rw[aR];simp
 |fr::S,(l+1,j)=>by rw[aR,List.length_cons,O8 x S,List.length_cons]
theorem Ta(x:Obj):∀(S:Store)(k:Key)(l:Nat)(fr:List Obj),(aR S k x)[l]? =some fr->∃zR,S[l]? =some zR/\zR.length=fr.length
 |[],k,l,fr,h=>by simp[aR] at h
 |f::S,(0,j),0,fr,h=>by rw[aR] at h;simp at h;subst h;exact⟨f,rfl,by simp⟩
 |f::S,(0,j),l+1,fr,h=>by rw[aR] at h;exact⟨fr,by simpa using h,rfl⟩
 |f::S,(i+1,j),0,fr,h=>by rw[aR] at h;exact⟨fr,by simpa using h,rfl⟩
 |f::S,(i+1,j),l+1,fr,h=>by
  rw[aR] at h;simpa using Ta x S (i,j) l fr (by simpa using h)
theorem abm{w:World}{σ:Nat->Nat}{β:Hs}(k:Key)(hS:dB w σ S β):dB w σ (aR S k .dead) β:=by
 have hn:dH w σ w σ:=(Grow.refl hS.live).near;refine⟨fun k' o ho=> ?_,fun k1 k2 o1 o2 h1 h2 b e1 e2 e3 e4 e5 e6=> ?_,⟨by rw[O8];exact hS.shape.1,fun l fr hl=> ?_⟩,hS.live,hS.qo⟩
 ·rcases wS ho with⟨rfl,rfl⟩|ho'
  ·cases hg:aN S k with
   |none=>
    exfalso;have:=DW S β k;rcases wS (S:=S) (k:=k) (k':=k) ho with⟨_,_⟩|h
    ·
     have hne:aN (aR S k .dead) k=none:=by
      have:∀(S:Store)(k:Key),aN S k=none->aN (aR S k Obj.dead) k=none:=by
       intro S
       induction S with
       |nil=>intro k _;rw[aR,lV]
       |cons fr S ih=>
        rintro⟨l,j⟩ h
        cases l with
        |zero=>
         rw[aP] at h;rw[aR,aP,List.set_eq_of_length_le (List.getElem?_eq_none_iff.1 h)];exact h
        |succ l=>rw[bI] at h;rw[aR,bI];exact ih _ h
      exact this S k hg
     rw[hne] at ho;cases ho
    ·rw[hg] at h;cases h
   |some y=>
    obtain⟨h,hh,_⟩:=hS.obj k y hg;exact⟨h,hh,trivial⟩
  ·obtain⟨h,hh,hr⟩:=hS.obj k' o ho';exact⟨h,hh,hr.mono hn ((DW S β k).drop k'.1) fun b _=>⟨rfl,rfl⟩⟩
 ·rcases wS e1 with⟨_,rfl⟩|FX
  ·cases e3
  ·rcases wS e4 with⟨_,rfl⟩|e4'
   ·cases e6
   ·exact hS.apart k1 k2 o1 o2 h1 h2 b FX e2 e3 e4' e5 e6
 ·obtain⟨zR,h1,h2⟩:=Ta _ S k l fr hl;obtain⟨gr,h3,h4⟩:=hS.shape.2 l zR h1;exact⟨gr,h3,by omega⟩
def Less(r r':V):Prop:=∀w σ S β v,bT w σ S β r v->bT w σ S β r' v
theorem Less.refl(r:V):Less r r:=fun _ _ _ _ _ h=>h
theorem bF.kill{f:FuncId}{args:List V}{post post':V->Store->Prop}(k:Key)(h:bF P f args S post)(hp:∀r S',post r S'->∃r',Less r r'/\(post' r' S'\/post' r' (aR S' k .dead))):bF P f args S post':=by
 refine⟨h.1,fun w σ β vs hS hv=>(h.2 w σ β vs hS hv).mono fun e w' ⟨v,r,S',σ',β',h1,h2,h3,h4,h5,h6⟩=> ?_⟩;obtain⟨r',hl,hp|hp⟩:=hp r S' h6
 ·exact⟨v,r',S',σ',β',h1,h2,h3,h4,hl _ _ _ _ _ h5,hp⟩
 ·have hkeep:=DW S' β' k;refine⟨v,r',aR S' k .dead,σ',β',h1,abm k h2,h3.trans hkeep,⟨h4.size,h4.os,h4.output,h4.far,h4.near,fun b hb=> ?_⟩,hl _ _ _ _ _ (h5.mono (Grow.refl h2.live).near hkeep),hp⟩;obtain⟨k',o,hv,e1,e2,e3⟩:=hb;rcases wS e1 with⟨_,rfl⟩|FX
  ·cases e3
  ·exact h4.own b ⟨k',o,hv,FX,e2,e3⟩
theorem aD{x y:Obj}:∀(S:Store)(k:Key),aR (aR S k x) k y=aR S k y
 |[],k=>rfl
 |fr::S,(0,j)=>by rw[aR,aR,aR];simp
 |fr::S,(l+1,j)=>by rw[aR,aR,aR,aD S]
theorem zU{x:Obj}:∀(S:Store)(k:Key),aN S k=some x->aR S k x=S
 |[],k,_=>rfl
 |fr::S,(0,j),h=>by
  rw[aP] at h;rw[aR];congr 1
  exact List.ext_getElem? fun i=>by
   rw[List.getElem?_set];split
   ·rename_i e;subst e;obtain⟨h1,h2⟩:=List.getElem?_eq_some_iff.1 h;simp[h1,h2]
   ·rfl
 |fr::S,(l+1,j),h=>by rw[bI] at h;rw[aR,zU S _ h]
def rP:List Bool->List V->List V
 |true::m,v::vs=>v::rP m vs
 |false::m,v::vs=>v.qA::rP m vs
 |[],vs=>vs.map V.qA
 |_,[]=>[]
theorem GN:∀(m:List Bool)(vs:List V),vs.length=(rP m vs).length
 |true::m,v::vs=>by rw[rP,List.length_cons,List.length_cons,GN m vs]
 |false::m,v::vs=>by rw[rP,List.length_cons,List.length_cons,GN m vs]
 |[],vs=>by simp[rP]
 |true::m,[]=>rfl
 |false::m,[]=>rfl
theorem KM:∀(m:List Bool)(vs:List V)(j:Nat)(x y:V),vs[j]? =some x->(rP m vs)[j]? =some y->y=x\/y=x.qA
 |true::m,v::vs,0,x,y,h1,h2=>by rw[rP] at h2;cases h1;cases h2;exact .inl rfl
 |false::m,v::vs,0,x,y,h1,h2=>by rw[rP] at h2;cases h1;cases h2;exact .inr rfl
 |true::m,v::vs,j+1,x,y,h1,h2=>by rw[rP] at h2;exact KM m vs j x y h1 h2
 |false::m,v::vs,j+1,x,y,h1,h2=>by rw[rP] at h2;exact KM m vs j x y h1 h2
 |[],vs,j,x,y,h1,h2=>by rw[rP,List.getElem?_map,h1] at h2;cases h2;exact .inr rfl
 |true::m,[],j,x,y,h1,h2=>by simp at h1
 |false::m,[],j,x,y,h1,h2=>by simp at h1
theorem bF.rP(m:List Bool){f:FuncId}{args:List V}{post:V->Store->Prop}(h:bF P f (Go.Ab.rP m args) S post):bF P f args S post:=
 h.weaken (GN m args) fun j x y hx hy w σ β v hr=>by
  rcases KM m args j x y hx hy with e|e
  ·rw[e];exact hr
  ·rw[e];exact OJ hr
theorem dX(m:List Bool){dr:Option Nat}{f:FuncId}{args:List V}{dst:Option Nat}{K:St->Prop}{r:V}{S1:Store}(hm:ac3 dr=true)(h:bF P f (rP m args) s.st (fun r' S'=>r'=r/\S'=S1))(hK:K (St.put ⟨s.tm,S1⟩ dst r)):gB P dr f args s dst K:=
 aX hm (h.rP m) hK
end
theorem aG.less{P:Program}{f:FuncId}{args:List V}{r r':V}(h:aG P f args r)(hl:Less r r'):aG P f args r':=
 fun S=>(h S).kill (0,0) fun r1 S' e=>⟨r',by rw[e.1];exact hl,.inl ⟨rfl,e.2⟩⟩
section
variable {P:Program} {S:Store}
def gN(n:Nat)(caps:List (Key×Nat)):List (Key×Nat):=caps.map fun y=>(xW n y.1,y.2)
theorem Vp{n:Nat}:gN n []=[]:=rfl
theorem RH{n l j off:Nat}{caps:List (Key×Nat)}:gN n (((l,j),off)::caps)=((n+l,j),off)::gN n caps:=rfl
theorem LB{m n:Nat}{caps:List (Key×Nat)}:gN m (gN n caps)=gN (m+n) caps:=by
 unfold gN;rw[List.map_map];refine List.map_congr_left fun y _=> ?_;simp only[Function.comp,xW,Prod.mk.injEq,and_true];omega
theorem RI{n m g:Nat}{caps:List (Key×Nat)}:C.refs n (.fn g (gN (m+1) caps))=true:=by
 simp only[C.refs,gN,List.all_map,List.all_eq_true];intro x _
 have h:0<m+1+x.1.1:=by omega
 simp[Function.comp,nk,xW,h]
theorem O9{n:Nat}{caps:List (Key×Nat)}:((gN 1 caps).all fun x=>nk n x.fst)=true:=RI (m:=0) (g:=0)
theorem Pb:∀(F S:Store)(l j:Nat),aN (F++S) (F.length+l,j)=aN S (l,j)
 |[],S,l,j=>by simp
 |fr::F,S,l,j=>by
  rw[List.cons_append,List.length_cons,show F.length+1+l=(F.length+l)+1 from by omega,bI,Pb F S l j]
theorem Pf(x:Obj):∀(F S:Store)(l j:Nat),aR (F++S) (F.length+l,j) x=F++aR S (l,j) x
 |[],S,l,j=>by simp
 |fr::F,S,l,j=>by
  rw[List.cons_append,List.length_cons,show F.length+1+l=(F.length+l)+1 from by omega,aR,Pf x F S l j,List.cons_append]
theorem Yu{F S:Store}{j:Nat}:aN (F++S) (F.length,j)=aN S (0,j):=Pb F S 0 j
theorem Yv{F S:Store}{j:Nat}{x:Obj}:aR (F++S) (F.length,j) x=F++aR S (0,j) x:=Pf x F S 0 j
attribute [go_sem] Yu Yv Vp RH
def kW(P:Program)(g:Nat)(caps:List (Key×Nat))(S:Store)(xs:List V)(r:V):Prop:=
 ∀F:Store,bF P g (xs++y9 (gN F.length caps)) (F++S) (fun r' S'=>r'=r/\S'=F++S)
theorem kW.push{g:Nat}{caps:List (Key×Nat)}{xs:List V}{r:V}(h:kW P g caps S xs r)(fr:List Obj):kW P g (gN 1 caps) (fr::S) xs r:=fun F=>by
 have:=h (F++[fr]);rw[LB];simpa using this
theorem kW.KN{g:Nat}{xs:List V}{r:V}(h:aG P g xs r):kW P g [] S xs r:=fun F=>by
 have:=h (F++S);simpa [gN,y9] using this
def Ck(P:Program)(g:Nat)(caps:List (Key×Nat)){α X:Type}(st:α->Store)(I:Nat->α->Prop)(f:α->X->α)(xv:X->V)(ok:X->Prop):Prop:=
 ∀n a u,I (n+1) a->ok u->I n (f a u)/\∀F:Store,bF P g (xv u::y9 (gN F.length caps)) (F++st a) (fun r' S'=>r'=.d9 []/\S'=F++st (f a u))
theorem Ck.push{g:Nat}{caps:List (Key×Nat)}{α X:Type}{st:α->Store}{I:Nat->α->Prop}{f:α->X->α}{xv:X->V}{ok:X->Prop}(h:Ck P g caps st I f xv ok)(fr:List Obj):
 Ck P g (gN 1 caps) (fun a=>fr::st a) I f xv ok:=fun n a u ha hu=>⟨(h n a u ha hu).1,fun F=>by
 have:=(h n a u ha hu).2 (F++[fr]);rw[LB]
 simpa using this⟩
theorem wT{N:Nat}{c:Code}{Q:Exit->St->Prop}{tm:List (Nat×V)}{own:List Obj}{Ω:Store}(j i aK:Nat)(es:List (List D))(cs:List C)(hj:own[j]? =some (.box cs))(hi:cs[i]? =some (.bE es))(hes:∀e∈es,e.length=aK)
 (h:AW P N c Q ⟨tm,(own.set j (.box (cs.set i (.bL (0,own.length) es)))++[.tok aK es])::Ω⟩):AW P N c Q ⟨tm,own::Ω⟩:=by
 refine j6 h fun a w σ β hR=> ?_;obtain⟨bo,bΩ,rfl,hlen⟩:=frames hR;have hjl:=(List.getElem?_eq_some_iff.1 hj).1
 have hg0:aN (own::Ω) (0,j)=some (.box cs):=by rw[aP];exact hj
 obtain⟨hb,FW,hr⟩:=hR.S.obj (0,j) _ hg0;obtain⟨b,cv,ty,rfl,hbc,hσ,hcs⟩:=hr;have hcs:dS w σ (own::Ω) (bo::bΩ) cs cv.toList:=hcs;obtain⟨v,hv,⟨hd,ad,n,hval⟩,hone⟩:=hcs.2 i _ hi
 have hn:n=es.length:=by rw[hval] at hd;cases hd<;>rfl
 have hg:Grow w σ w σ:=Grow.refl hR.S.live
 obtain⟨hS',hk,hst⟩:=hR.S.push (o:=.tok aK es) (h:=v) hg hlen ⟨hd,hes,ad,n,by rw[hval,hn],by omega,.inl hn⟩ (fun b hb=>by
  rw[hval,hn] at hb
  cases ad<;>simp[owns,blk] at hb)
 have hk1:aN ((own++[.tok aK es])::Ω) (0,j)=some (.box cs):=iD _ _ _ _ _ hg0;have Dg:aN ((bo++[v])::bΩ) (0,j)=some (.pointer (some ⟨b,0,none⟩)):=iD _ _ _ _ _ FW;have hko:jV (.box cs) (some (Value.pointer (some ⟨b,0,none⟩))) (.box (cs.set i (.bL (0,own.length) es))) (some (Value.pointer (some ⟨b,0,none⟩))):=.inr ⟨⟨_,rfl⟩,rfl⟩
 have hK:Keep ((own++[.tok aK es])::Ω) ((bo++[v])::bΩ) (aR ((own++[.tok aK es])::Ω) (0,j) (.box (cs.set i (.bL (0,own.length) es)))) (aR ((bo++[v])::bΩ) (0,j) (.pointer (some ⟨b,0,none⟩))):=by
  intro k1 o1 e1;by_cases e:k1=(0,j)
  ·subst e;rw[hk1] at e1;cases e1;exact⟨_,bP _ _ _ _ hk1,by rw[Dg,bP _ _ _ _ Dg];exact hko⟩
  ·exact⟨o1,(dJ _ _ _ _ (Ne.symm e)).trans e1,by rw[dJ _ _ _ _ (Ne.symm e)];exact .refl _ _⟩
 have hne:(0,own.length)≠(0,j):=fun e=>by injection e with _ e;omega
 obtain⟨hS2,hk2,uQ⟩:=hS'.set (w':=w) (σ':=σ) (o':=.box (cs.set i (.bL (0,own.length) es))) (h':=.pointer (some ⟨b,0,none⟩)) hk1 Dg (Nat.le_refl _) rfl rfl (dH.refl _ _) hS'.live (fun _ _ _=>⟨rfl,rfl⟩) hko
  ⟨b,cv,ty,rfl,hbc,hσ,by
    refine⟨by rw[List.length_set];exact hcs.1,fun m x hm=> ?_⟩;rw[List.getElem?_set] at hm;by_cases e:i=m
    ·subst e;rw[if_pos rfl] at hm;split at hm
     ·cases hm;refine⟨v,hv,⟨hd,.tok aK es,?_,fun a1 b1 e1=> ?_⟩,hone⟩
      ·show aN (aR _ (0,j) _) (0,own.length)=_;rw[dJ _ _ _ _ (Ne.symm hne),bn]
      ·obtain⟨_,rfl⟩:=jd (lab:=none) e1;refine⟨Nat.le_refl _,fun _=> ?_⟩;show aN (aR _ (0,j) _) (0,own.length)=_;rw[dJ _ _ _ _ (Ne.symm hne),<-hlen,bn]
     ·cases hm
    ·rw[if_neg e] at hm;obtain⟨u,hu,hc,ho⟩:=hcs.2 m x hm
     exact⟨u,hu,(hc.mono (dH.refl _ _) hk).mono (dH.refl _ _) hK,ho⟩⟩ (fun _ e=>.inl e)
 have est:aR ((own++[.tok aK es])::Ω) (0,j) (.box (cs.set i (.bL (0,own.length) es)))=(own.set j (.box (cs.set i (.bL (0,own.length) es)))++[.tok aK es])::Ω:=by
  rw[aR,List.set_append_left _ _ hjl]
 rw[est] at hS2 hk2 uQ
 exact⟨σ,_,⟨hR.size,hR.defers,hS2,fun u=>((hR.T u).mono (dH.refl _ _) hk).mono (dH.refl _ _) hk2⟩,hst.trans uQ,by
  have:=hk.trans hk2
  exact this.tail⟩
end
inductive D.Fit:D->Prop
 |b (x):Fit (.b x)
 |i (k n):Fit (.i k n)
 |s (l) (h:l.length<=9223372036854775807):Fit (.s l)
 |sl (es) (h:es.length<=9223372036854775807) (hh:∀e∈es,∀d∈e,Fit d):Fit (.sl es)
 |o (v):Fit (.o v)
def ze(cs:List D):Prop:=∀d∈cs,d.Fit
theorem zf:ze []:=fun d h=>by cases h
theorem zV{d:D}{ds:List D}:ze (d::ds)<->d.Fit/\ze ds:=by simp[ze]
theorem RJ{a b:List D}:ze (a++b)<->ze a/\ze b:=by
 simp only[ze,List.mem_append];exact⟨fun h=>⟨fun d hd=>h d (.inl hd),fun d hd=>h d (.inr hd)⟩,fun h d hd=>hd.elim (h.1 d) (h.2 d)⟩
def WTF(P:Program)(W:TypeId->List D->Prop):List Field->List D->Prop
 |[],ds=>ds=[]
 |f::fs,ds=>∃a b,ds=a++b/\a.length=P.cellsOf f.type/\W f.type a/\WTF P W fs b
def WT(P:Program):Nat->TypeId->List D->Prop
 |0,_,_=>False
 |n+1,t,ds=>
  match P.underlying t with
  |some .bool=>∃b,ds=[.b b]
  |some (.int k)=>∃x,ds=[.i k x]/\(Lit.int k x).wf=true
  |some .string=>∃l,ds=[.s l]/\l.length<=9223372036854775807
  |some (.slice e)=>∃es,ds=[.sl es]/\es.length<=9223372036854775807/\∀x∈es,x.length=P.cellsOf e/\WT P n e x
  |some (.struct fs)=>WTF P (WT P n) fs.toList ds
  |_=>False
def yx(P:Program):List Field->Nat->Nat->Bool
 |[],a,b=>a==b
 |f::fs,a,b=>f.offset==a&&yx P fs (a+P.cellsOf f.type) b
def KO(P:Program)(L:List TypeId):Bool:=
 L.all fun t=>match P.underlying t with
  |some .bool|some (.int _)|some .string=>P.cellsOf t==1
  |some (.slice e)=>P.cellsOf t==1&&L.contains e&&decide (0<P.cellsOf e)
  |some (.struct fs)=>yx P fs.toList 0 (P.cellsOf t)&&fs.toList.all fun f=>L.contains f.type
  |_=>false
def iM(w:World)(b:Nat):Nat:=match w.heap[b]? with
 |some (.cells c _ _)=>c.size
 |_=>0
def pz(w:World)(ds:List D)(vs:List Value):Prop:=ds.length=vs.length/\∀(j:Nat)(d:D),ds[j]? =some d->∃v,vs[j]? =some v/\bS w (iM w) d v/\v.oneCell'=true
theorem pz.append{w:World}{a b:List D}{xs ys:List Value}(h1:pz w a xs)(h2:pz w b ys):pz w (a++b) (xs++ys):=by
 refine⟨by simp[h1.1,h2.1],fun j d hj=> ?_⟩;rw[List.getElem?_append] at hj ⊢;have:=h1.1;split at hj
 ·rw[if_pos (by omega)];exact h1.2 j d hj
 ·rw[if_neg (by omega),<-h1.1];exact h2.2 _ d hj
theorem pz.one{w:World}{d:D}{v:Value}(h:bS w (iM w) d v)(h1:v.oneCell'=true):pz w [d] [v]:=by
 refine⟨rfl,fun j x hj=> ?_⟩
 cases j with
 |zero=>cases hj;exact⟨v,rfl,h,h1⟩
 |succ j=>simp at hj
theorem Pg{α β:Type}(f:α->Option β):∀(l:List α)(ys:List β),l.mapM f=some ys->ys.length=l.length/\∀(j:Nat)(x:α),l[j]? =some x->∃y,f x=some y/\ys[j]? =some y
 |[],ys,h=>by
  simp at h;subst h;exact⟨rfl,fun j x hj=>by simp at hj⟩
 |a::l,ys,h=>by
  rw[List.mapM_cons] at h
  cases ha:f a with
  |none=>rw[ha] at h;cases h
  |some y=>
   cases hl:l.mapM f with
   |none=>rw[ha,hl] at h;cases h
   |some zs=>
    rw[ha,hl] at h;cases h;obtain⟨h1,h2⟩:=Pg f l zs hl;refine⟨by simp[h1],fun j x hj=> ?_⟩
    cases j with
    |zero=>cases hj;exact⟨y,ha,rfl⟩
    |succ j=>exact h2 j x hj
section
variable {H:Type} {enc:TypeId×Value->H} {P:Program} {w:World} {L:List TypeId}
theorem Cm{a:Addr}{n:Nat}{vs:List Value}(hn:0<n)(h:w.cells? 0 a n=some vs):a.spot=none/\vs.length=n/\∃c t fz,w.heap[a.block]? =some (.cells c t fz)/\∀j,j<n->∃v,vs[j]? =some v/\c[a.off+j]? =some v:=by
 unfold World.cells? at h;rw[if_pos (Nat.zero_le _)] at h;obtain⟨h1,h2⟩:=Pg _ _ _ h;rw[List.length_range] at h1;obtain⟨v0,hv0,_⟩:=h2 0 0 (by simp[hn])
 have Ny:a.add 0=a:=by simp[Addr.add]
 rw[Ny] at hv0;unfold World.cell? at hv0
 cases hb:w.heap[a.block]? with
 |none=>rw[hb] at hv0;cases hv0
 |some ob=>
  rw[hb] at hv0
  cases ob with
  |map _ _=>cases hv0
  |cells c t fz=>
   have hs:a.spot=none:=by
    cases hsp:a.spot with
    |none=>rfl
    |some x=>rw[hsp] at hv0;simp at hv0
   refine⟨hs,h1,c,t,fz,rfl,fun j hj=> ?_⟩;obtain⟨v,hv,hvs⟩:=h2 j j (by simp[hj]);refine⟨v,hvs,?_⟩;unfold World.cell? at hv;by_cases hj0:j=0
   ·subst hj0;rw[Ny,hb] at hv;simp[hs] at hv;simpa using hv
   ·simp[Addr.add,hj0,hb] at hv;exact hv
  |_=>cases hv0
theorem F5{α:Type}{p:Nat->α->Prop}:∀n:Nat,(∀i,i<n->∃x,p i x)->∃l:List α,l.length=n/\∀(i:Nat)(x:α),l[i]? =some x->p i x
 |0,_=>⟨[],rfl,fun i x h=>by simp at h⟩
 |n+1,h=>by
  obtain⟨l,hl,hp⟩:=F5 n fun i hi=>h i (by omega);obtain⟨x,hx⟩:=h n (by omega);refine⟨l++[x],by simp[hl],fun i y hy=> ?_⟩;rw[List.getElem?_append] at hy;split at hy
  ·exact hp i y hy
  ·rename_i hlt
   have hi:i-l.length<1:=by
    have:=(List.getElem?_eq_some_iff.1 hy).1;simpa using this
   have:i=n:=by omega
   subst this;rw[show i-l.length=0 from by omega] at hy;cases hy;exact hx
theorem Yw(hc:KO P L=true){t:TypeId}(ht:t∈L):(match P.underlying t with
 |some .bool|some (.int _)|some .string=>P.cellsOf t==1
 |some (.slice e)=>P.cellsOf t==1&&L.contains e&&decide (0<P.cellsOf e)
 |some (.struct fs)=>yx P fs.toList 0 (P.cellsOf t)&&fs.toList.all fun f=>L.contains f.type
 |_=>false)=true:=List.all_eq_true.1 hc t ht
theorem RL{n:Nat}{fs:List Field}{cs:List Value}:∀(off:Nat),off<=cs.length->yx P fs off cs.length=true->
 (∀f∈fs,∃ds,WT P n f.type ds/\pz w ds ((cs.drop f.offset).take (P.cellsOf f.type)))->∃ds,WTF P (WT P n) fs ds/\pz w ds (cs.drop off):=by
 induction fs with
 |nil=>
  intro off _ ht _
  have:off=cs.length:=by simpa [yx] using ht
  exact⟨[],rfl,by simp[this,pz]⟩
 |cons f fs ih=>
  intro off ho ht h;simp only[yx,Bool.and_eq_true,beq_iff_eq] at ht;obtain⟨a,ha1,ha2⟩:=h f (by simp)
  have hle:∀(fs:List Field)(o:Nat),yx P fs o cs.length=true->o<=cs.length:=by
   intro fs
   induction fs with
   |nil=>intro o h;have:o=cs.length:=by simpa [yx] using h
         omega
   |cons g gs ih=>intro o h;simp only[yx,Bool.and_eq_true] at h;have:=ih _ h.2;omega
  have hle':=hle fs _ ht.2;obtain⟨b,hb1,hb2⟩:=ih (off+P.cellsOf f.type) hle' ht.2 fun g hg=>h g (by simp[hg]);rw[ht.1] at ha2;refine⟨a++b,⟨a,b,rfl,?_,ha1,hb1⟩,?_⟩
  ·rw[ha2.1];simp;omega
  ·have:=ha2.append hb2;rw[<-List.drop_drop,List.take_append_drop] at this;exact this
theorem DX(hc:KO P L=true){sp:Nat->Bool}{held:Bool}:∀(fuel:Nat)(t:TypeId)(cs:List Value)(x:DataW H×List MemPlace),t∈L->
 DataW.trod enc P w 0 sp held fuel t cs=some x->∃ds,WT P fuel t ds/\pz w ds cs
 |0,t,cs,x,_,h=>by simp[DataW.trod] at h
 |n+1,t,cs,x,ht,h=>by
  have hcl:=Yw hc ht
  cases hu:P.underlying t with
  |none=>rw[hu] at hcl;cases hcl
  |some u=>
   rw[hu] at hcl
   cases u with
   |bool=>
    obtain⟨b,rfl,_⟩:=DataW.trod_bool hu h;exact⟨[.b b],by simp only[WT,hu];exact⟨b,rfl⟩,pz.one (.b b) rfl⟩
   |int k=>
    obtain⟨m,rfl,_,hw⟩:=DataW.trod_int hu h;exact⟨[.i k m],by simp only[WT,hu];exact⟨m,rfl,hw⟩,pz.one (.i k m) rfl⟩
   |string=>
    obtain⟨s,rfl,_,hs⟩:=DataW.trod_string hu h
    have hl:s.data.toList.length<=9223372036854775807:=by
     have h1:s.data.toList.length=s.size:=by rw[Array.length_toList];rfl
     rw[h1];exact hs
    refine⟨[.s s.data.toList],?_,pz.one ?_ rfl⟩
    ·simp only[WT,hu];exact⟨_,rfl,hl⟩
    ·exact .s s.data.toList
   |slice e=>
    simp only[Bool.and_eq_true,beq_iff_eq,decide_eq_true_eq,List.contains_iff_mem] at hcl;obtain⟨⟨h1,he⟩,hpos⟩:=hcl;rcases DataW.trod_slice hu h with⟨rfl,_⟩|⟨a,len,cap,elems,rest,m,hm,rfl,_,_,hlc,hcm,hel,hget,_,_⟩
    ·exact⟨[.sl []],by simp only[WT,hu];exact⟨[],rfl,by simp,fun x hx=>by cases hx⟩,pz.one (.nil _ _) rfl⟩
    ·cases hm
     have hall:∀i,i<len->∃ds:List D,ds.length=P.cellsOf e/\WT P n e ds/\∃vs,w.cells? 0 (a.add (i*P.cellsOf e)) (P.cellsOf e)=some vs/\pz w ds vs:=by
      intro i hi;have hg:=hget i hi
      cases hcs:w.cells? 0 (a.add (i*P.cellsOf e)) (P.cellsOf e) with
      |none=>
       rw[hcs] at hg
       have:i<elems.length:=by omega
       rw[List.getElem?_eq_getElem this] at hg;cases hg
      |some vs=>
       rw[hcs] at hg
       have hlt:i<elems.length:=by omega
       rw[List.getElem?_eq_getElem hlt] at hg;obtain⟨ds,hd1,hd2⟩:=DX hc n e vs _ he hg;have hv:=(Cm hpos hcs).2.1;exact⟨ds,by rw[hd2.1,hv],hd1,vs,rfl,hd2⟩
     obtain⟨es,hes,hp⟩:=F5 len hall
     have hwt:WT P (n+1) t [.sl es]:=by
      simp only[WT,hu]
      refine⟨es,rfl,by have:cap<=9223372036854775807:=hcm
                       omega,fun x hx=> ?_⟩
      obtain⟨i,hi⟩:=List.getElem?_of_mem hx;exact⟨(hp i x hi).1,(hp i x hi).2.1⟩
     refine⟨[.sl es],hwt,?_⟩
     cases BS:es with
     |nil=>
      have h0:len=0:=by rw[<-hes,BS];rfl
      subst h0;exact pz.one (.nil _ _) rfl
     |cons e0 es0=>
      have ahm:0<len:=by rw[<-hes,BS];simp
      have hlen:∀x∈es,x.length=P.cellsOf e:=fun x hx=>by
       obtain⟨i,hi⟩:=List.getElem?_of_mem hx;exact(hp i x hi).1
      obtain⟨ds0,_,_,vs0,afR,_⟩:=hall 0 ahm
      have Ny:a.add (0*P.cellsOf e)=a:=by simp[Addr.add]
      rw[Ny] at afR;obtain⟨hsp,_,c,tt,fz,hblk,_⟩:=Cm hpos afR
      have hcell:∀i r,i<len->r<P.cellsOf e->∃(x:List D) (v:Value) (d:D),es[i]? =some x/\x[r]? =some d/\c[a.off+(i*P.cellsOf e+r)]? =some v/\bS w (iM w) d v:=by
       intro i r hi hr
       have hlt:i<es.length:=by omega
       obtain⟨hx1,hx2,vs,hvs,hrep⟩:=hp i es[i] (List.getElem?_eq_getElem hlt);obtain⟨_,hvl,c',t',Oe,hblk',hcc⟩:=Cm hpos hvs
       have hb':(a.add (i*P.cellsOf e)).block=a.block:=by unfold Addr.add;split<;>rfl
       have ho':(a.add (i*P.cellsOf e)).off=a.off+i*P.cellsOf e:=by unfold Addr.add;split<;>simp_all
       rw[hb',hblk] at hblk';cases hblk';obtain⟨v,hv1,hv2⟩:=hcc r hr
       have hdr:r<es[i].length:=by omega
       obtain⟨v',hv',hd',_⟩:=hrep.2 r es[i][r] (List.getElem?_eq_getElem hdr);rw[hv1] at hv';cases hv';refine⟨es[i],v,es[i][r],List.getElem?_eq_getElem hlt,List.getElem?_eq_getElem hdr,?_,hd'⟩;rw[ho'] at hv2;rw[<-Nat.add_assoc];exact hv2
      have hbound:a.off+len*P.cellsOf e<=c.size:=by
       obtain⟨_,v,_,_,_,hv,_⟩:=hcell (len-1) (P.cellsOf e-1) (by omega) (by omega);have:=(Array.getElem?_eq_some_iff.1 hv).1
       have e1:(len-1)*P.cellsOf e+P.cellsOf e=len*P.cellsOf e:=by
        rw[<-Nat.succ_mul];congr 1;omega
       omega
      have key:bS w (iM w) (.sl es) (.slice (some ⟨a.block,a.off,none⟩) es.length cap):=by
       refine .sl a.block a.off cap (P.cellsOf e) es (fun j=>(c[a.off+j]?).getD undef) c tt fz (by omega) hlen hblk ?_ (fun j hj=> ?_) (fun j d hj=> ?_)
       ·unfold iM;rw[hblk,hes];exact hbound
       ·have:a.off+j<c.size:=by rw[hes] at hj;omega
        rw[Array.getElem?_eq_getElem this];rfl
       ·have hfl:es.flatten.length=es.length*P.cellsOf e:=gq es _ hlen
        have hjl:j<es.length*P.cellsOf e:=by rw[<-hfl];exact(List.getElem?_eq_some_iff.1 hj).1
        have hi:j/P.cellsOf e<len:=by rw[<-hes];exact(Nat.div_lt_iff_lt_mul hpos).2 hjl
        obtain⟨x,v,d',hx,hd',hv,hr⟩:=hcell (j/P.cellsOf e) (j % P.cellsOf e) hi (Nat.mod_lt _ hpos)
        have hlt':j/P.cellsOf e<es.length:=by omega
        have hfg:=flat_get es (P.cellsOf e) hlen (j/P.cellsOf e) (j % P.cellsOf e) hlt' (Nat.mod_lt _ hpos)
        have hj':j/P.cellsOf e*P.cellsOf e+j % P.cellsOf e=j:=by rw[Nat.mul_comm];exact Nat.div_add_mod j _
        rw[hj',hj] at hfg;rw[List.getElem?_eq_getElem hlt'] at hx;cases hx;rw[hd'] at hfg;cases hfg;rw[hj'] at hv;rw[hv];exact hr
      rw[<-BS];refine pz.one ?_ rfl
      have ha:a=⟨a.block,a.off,none⟩:=by cases a;simp at hsp;simp[hsp]
      rw[ha,<-hes];exact key
   |struct fs=>
    simp only[Bool.and_eq_true] at hcl;obtain⟨htl,hfs⟩:=hcl;obtain⟨xs,m,hm,rfl,hlen,hxs,aiv⟩:=DataW.trod_struct hu h;cases hm;rw[<-hlen] at htl
    obtain⟨ds,h1,h2⟩:=RL (w:=w) (n:=n) (cs:=cs) 0 (Nat.zero_le _) htl fun f hf=>by
     obtain⟨i,hi⟩:=List.getElem?_of_mem hf
     have hi':fs[i]? =some f:=by simpa using hi
     have hg:=aiv i f hi'
     have hlt:i<xs.length:=by
      rw[hxs];exact(Array.getElem?_eq_some_iff.1 hi').1
     rw[List.getElem?_eq_getElem hlt] at hg
     have hfL:f.type∈L:=by
      have:=List.all_eq_true.1 hfs f hf;simpa using this
     exact DX hc n f.type _ _ hfL hg
    refine⟨ds,by simp only[WT,hu];exact h1,?_⟩;rw[List.drop_zero] at h2;exact h2
   |_=>cases hcl
end
open Go.ChangeShapes Go.WideShapes Go.ChangeAt Go.RowKit
section
variable {H:Type} {enc:TypeId×Value->H} {P:Program} {W W':World} {L:List TypeId} {t:TypeId} {v:Value} {base:Nat}
theorem abn{d:D}(hv:v.cells.toList=[v])(hL:pz W [d] v.cells.toList):bT W (iM W) [] [] (.c (.d d)) v:=by
 obtain⟨u,h1,h2,h3⟩:=hL.2 0 d rfl;rw[hv] at h1;cases h1;exact⟨h2,h3⟩
theorem Yx{e:TypeId}{d:D}(ht:P.underlying t=some (.slice e))(hok:Value.okWide P W .any base t v)(hL:pz W [d] v.cells.toList):bT W (iM W) [] [] (.c (.d d)) v:=by
 obtain⟨a,n,m,rfl⟩:=okWide_slice ht hok;exact abn rfl hL
theorem Yy:ni W (iM W) [] [] [] []:=⟨rfl,fun j x h=>by simp at h⟩
theorem Vq{x:V}{xs:List V}{vs:List Value}(h1:bT W (iM W) [] [] x v)(h2:ni W (iM W) [] [] xs vs):ni W (iM W) [] [] (x::xs) (v::vs):=by
 refine⟨by simp[h2.1],fun j y hj=> ?_⟩
 cases j with
 |zero=>cases hj;exact⟨v,rfl,h1⟩
 |succ j=>exact h2.2 j y hj
theorem abo(W:World)(hg:Ar W (iM W)):dB W (iM W) [] [] where
 qo:=hg
 obj:=fun k o h=>by rw[lV] at h;cases h
 apart:=fun k k' o o' h h' b h1=>by rw[lV] at h1;cases h1
 shape:=⟨rfl,fun l fr h=>by simp at h⟩
 live:=fun b=>by
  by_cases h:b<W.heap.size
  ·exact .inl h
  ·right;unfold iM;rw[Array.getElem?_eq_none (by omega)]
theorem afS{b:Nat}:¬Own [] [] b:=fun⟨k,o,h,h1,_⟩=>by rw[lV] at h1;cases h1
theorem Dh(hl:laidOutB P=true)(hsame:∀b,b<W.heap.size->W'.heap[b]? =W.heap[b]?)(sp:Nat->Bool):∀(ts:List TypeId)(vs:List Value)(ds:List (DataW H))(ps:List MemPlace),
 (ts.all fun t=>P.readableRec t&&decide (t<P.types.size))=true->(∀p∈ps,p.block<W.heap.size/\sp p.block=true)->
   DataW.TrodAll enc P W 0 (fun _=>true) true ts vs ds ps->DataW.TrodAll enc P W' 0 sp true ts vs ds ps
 |[],[],[],ps,_,_,h=>h
 |t::ts,v::vs,d::ds,ps,hr,hlt,h=>by
  simp only[List.all_cons,Bool.and_eq_true,decide_eq_true_eq] at hr;obtain⟨p,q,h1,h2,rfl⟩:=h;refine⟨p,q,WideElems.Trod_stays hl hr.1.1 hr.1.2 h1 (fun x hx=> ?_) (fun x hx=>(hlt x (by simp[hx])).2),Dh hl hsame sp ts vs ds q hr.2 (fun x hx=>hlt x (by simp[hx])) h2,rfl⟩;have hb:=(hlt x (by simp[hx])).1
  cases x with
  |cell b o=>exact World.cell?_of_block (w:=W) (hsame b hb)
  |map b=>exact hsame b hb
 |[],[],_::_,ps,_,_,h=>h.elim
 |[],_::_,_,ps,_,_,h=>h.elim
 |_::_,[],_,ps,_,_,h=>h.elim
 |_::_,_::_,[],ps,_,_,h=>h.elim
theorem abp{f:FuncId}{fn:Func}{s:ChangeSpec}{args:Array Value}{ds gs:List (DataW H)}{before:List MemPlace}{vs:List V}{tb:TypeId}(hl:laidOutB P=true)
 (hr:(fn.params.toList.all fun t=>P.readableRec t&&decide (t<P.types.size))=true)(hvars:s.vars=[])(hres:fn.resultTypes= #[tb])(htb:P.underlying tb=some .bool)
 (hs1:(s.fn H (ds++gs)).results=[.lit (.bool true)])(hs2:(s.fn H (ds++gs)).args=ds)(hs3:(s.fn H (ds++gs)).vars=[])
 (hW:DataW.Whole enc P fn.params.toList s.vars false W args.toList ds gs before)(hargs:ni W (iM W) [] [] vs args.toList)
 (hcall:bF P f vs [] fun r _=>r=.c (.d (.b true)))(ahn:Ar W (iM W):=by(intro g p hm;exact absurd hm List.not_mem_nil)):
 Calls P f args W fun e W'=>∃v,e=.returned v/\s.post enc P fn false true false false W args v W':=by
 have hc:=hcall.2 W (iM W) [] args.toList (abo W ahn) hargs
 have e1:args.toList.toArray=args:=by simp
 rw[e1] at hc;refine hc.mono fun e W' ⟨v,r,S',σ',β',he,hS',hk,hst,hv,hp⟩=> ?_;subst hp;obtain⟨hv,_⟩:=hv;cases hv;refine⟨_,he,?_⟩;have hsame:∀b,b<W.heap.size->W'.heap[b]? =W.heap[b]? :=fun b hb=>(hst.far b hb afS).1;have hlt:=fun p hp=>hW.lt p hp;have hW0:=hW;obtain⟨pa,q,hA,hV,rfl,hz,hn⟩:=hW;rw[hvars] at hV
 have hq:gs=[]/\q=[]:=by
  obtain⟨h1,h2⟩:=trodVars_none hV;exact⟨h1,h2⟩
 obtain⟨rfl,rfl⟩:=hq
 rw[List.append_nil] at *
 refine⟨ds,[],pa,[],pa,[],?_,?_,?_,?_,?_,fun h=>by cases h⟩
 ·simpa using hW0
 ·rw[List.append_nil,hs1,hres];exact trodAll_cons_mk (shut_bool htb _) trodAll_mk0
 ·rw[List.append_nil,hs2];exact Dh hl hsame _ _ _ _ _ hr (fun p hp=>⟨hlt p hp,by simpa using hlt p hp⟩) hA
 ·rw[List.append_nil,hs3,hvars];rfl
 ·refine⟨hst.os,hst.output,fun i hi=> ?_⟩;rw[hsame i hi];split<;>simp_all
end
mutual
def D.sz:D->Nat
 | .s l=>l.length
 | .sl es=>es.length+bA es
 | .b _=>0
 | .i _ _=>0
 | .o _=>0
 | .ol _ es=>es.length+bA es
def bG:List D->Nat
 |[]=>0
 |d::ds=>d.sz+bG ds
def bA:List (List D)->Nat
 |[]=>0
 |r::rs=>bG r+bA rs
end
theorem bQ:∀(a b:List D),bG (a++b)=bG a+bG b
 |[],b=>by simp[bG]
 |d::ds,b=>by rw[List.cons_append,bG,bQ ds b,bG];omega
def kQ(left:Int)(n:Nat):Int:=if left-n<0 then -1 else left-n
theorem Fg{l:Int}{a:Nat}(h:¬kQ l a<0):kQ l a=l-a/\0<=l-a:=by
 unfold kQ at *
 split at h
 ·omega
 ·rename_i h';exact⟨if_neg h',by omega⟩
theorem Cn{l:Int}{a:Nat}(h:kQ l a<0):l-a<0:=by
 unfold kQ at *
 split at h<;>omega
theorem Fh{l:Int}{a:Nat}(h:l-a<0):kQ l a= -1:=if_pos h
theorem Ph{l:Int}{a:Nat}(h:0<=l-a):kQ l a=l-a:=if_neg (by omega)
theorem int_eq{k:IntKind}{a b:Int}(h:a=b):V.c (.d (.i k a))=V.c (.d (.i k b)):=by rw[h]
theorem aQ{a b:Bool}(h:a=b):V.c (.d (.b a))=V.c (.d (.b b)):=by rw[h]
noncomputable def dec(p:Prop):Bool:= @decide p (Classical.propDecidable p)
theorem dx{p:Prop}(h:p):dec p=true:=by simp[dec,h]
theorem bJ{p:Prop}(h:¬p):dec p=false:=by simp[dec,h]
theorem iR{p:Prop}(h:dec p=true):p:=by simpa [dec] using h
theorem mV{p:Prop}(h:dec p=false):¬p:=by simpa [dec] using h
theorem wB{p:Prop}:(dec p=true)=p:=by simp[dec]
theorem DY{p:Prop}:(dec p=false)=¬p:=by simp[dec]
attribute [wf_preprocess] wB DY
theorem lC{p q:Prop}(h:p<->q):dec p=dec q:=by rw[propext h]
theorem abq:dec True=true:=dx trivial
theorem Yz:dec False=false:=bJ id
attribute [go_sem] abq Yz
theorem kX{p:Prop}[Decidable p]:decide p=dec p:=by by_cases h:p<;>simp[dec,h]
theorem gD{r:List D}:∀{rs:List (List D)},r∈rs->bG r<=bA rs
 |a::rs,h=>by
  rw[bA];rcases List.mem_cons.1 h with rfl|h
  ·omega
  ·have:=gD h;omega
def DZ(z i:Nat)(R rows:List (List D)):Prop:=R.length=rows.length/\(∀r∈R,r.length=z)/\∀j,j<i->R[j]? =rows[j]?
theorem DZ.step{z i:Nat}{R rows:List (List D)}{row:List D}(h:DZ z i R rows)(hi:rows[i]? =some row)(hr:row.length=z):DZ z (i+1) (R.set i (pY (R.getD i []) 0 row)) rows:=by
 obtain⟨h1,h2,h3⟩:=h;have hlt:i<rows.length:=(List.getElem?_eq_some_iff.1 hi).1
 have hs:pY (R.getD i []) 0 row=row:=by
  have hm:R.getD i []∈R:=by
   rw[List.getD_eq_getElem?_getD,List.getElem?_eq_getElem (by omega)];exact List.getElem_mem _
  have:=h2 _ hm;unfold pY;rw[List.take_zero,List.nil_append,Nat.zero_add,hr,List.drop_eq_nil_of_le (by omega),List.append_nil]
 rw[hs];refine⟨by simpa using h1,fun r hr'=> ?_,fun j hj=> ?_⟩
 ·rcases List.mem_or_eq_of_mem_set hr' with h|h
  ·exact h2 r h
  ·rw[h];exact hr
 ·by_cases e:j=i
  ·subst e;rw[hi,List.getElem?_set_self (by omega)]
  ·rw[List.getElem?_set_ne (by omega)];exact h3 j (by omega)
theorem DZ.done{z i:Nat}{R rows:List (List D)}(h:DZ z i R rows)(hi:rows.length<=i):R=rows:=by
 obtain⟨h1,h2,h3⟩:=h;refine List.ext_getElem? fun j=> ?_;by_cases hj:j<i
 ·exact h3 j hj
 ·rw[List.getElem?_eq_none (by omega),List.getElem?_eq_none (by omega)]
def encS(s:List UInt8):List D:=[.s s]
def encI(n:Int):List D:=[.i .i64 n]
inductive ak where
 |mk (aH:Int) (fName:List UInt8) (fArgs:List ak)
def ak.aH:ak->Int| .mk x _ _=>x
def ak.fName:ak->List UInt8| .mk _ x _=>x
def ak.fArgs:ak->List ak| .mk _ _ x=>x
theorem ak.eta(x:ak):ak.mk x.aH x.fName x.fArgs=x:=by cases x;rfl
theorem ak.ext{x y:ak}(h0:x.aH=y.aH)(h1:x.fName=y.fName)(h2:x.fArgs=y.fArgs):x=y:=by
 rw[<-ak.eta x,<-ak.eta y,h0,h1,h2]
mutual
def ak.enc:ak->List D
 | .mk a0 a1 a2=>[.i .i64 a0,.s a1,.sl (ak.encs a2)]
def ak.encs:List ak->List (List D)
 |[]=>[]
 |x::xs=>x.enc::ak.encs xs
end
theorem ak.iT:∀l,ak.encs l=l.map ak.enc
 |[]=>rfl
 |x::xs=>by rw[ak.encs,List.map_cons,ak.iT xs]
theorem ak.aB(x:ak):x.enc=[.i .i64 x.aH,.s x.fName,.sl (x.fArgs.map ak.enc)]:=by
 cases x;simp only[ak.enc,ak.iT,ak.aH,ak.fName,ak.fArgs]
abbrev ak.v(x:ak):V:=.agg [.d (.i .i64 x.aH),.d (.s x.fName),.d (.sl (x.fArgs.map ak.enc))]
theorem ak.ou(x:ak): .agg (x.enc.map .d)=x.v:=by
 simp only[ak.aB,List.map_cons,List.map_nil,List.cons_append,List.nil_append,List.map_append]
theorem ak.bK(x:ak):x.enc.length=3:=by
 simp only[ak.aB,List.length_append,List.length_cons,List.length_nil]
def ak.sz(x:ak):Nat:=bG x.enc
theorem ak.bZ(x:ak):bG x.enc=x.sz:=rfl
theorem ak.iy(x:ak):SizeOf.sizeOf x.fArgs<SizeOf.sizeOf x:=by cases x;simp[ak.fArgs];omega
structure dw where
 fVar:List UInt8
 fType:ak
def dw.enc(x:dw):List D:=[.s x.fVar]++(x.fType.enc)
theorem dw.aB(x:dw):x.enc=[.s x.fVar]++(x.fType.enc):=rfl
theorem dw.eta(x:dw):dw.mk x.fVar x.fType=x:=rfl
theorem dw.ext'{x y:dw}(h0:x.fVar=y.fVar)(h1:x.fType=y.fType):x=y:=by
 cases x;cases y;simp_all
abbrev dw.v(x:dw):V:=.agg [.d (.s x.fVar),.d (.i .i64 x.fType.aH),.d (.s x.fType.fName),.d (.sl (x.fType.fArgs.map ak.enc))]
theorem dw.ou(x:dw): .agg (x.enc.map .d)=x.v:=by
 simp only[dw.aB,ak.aB,List.map_cons,List.map_nil,List.cons_append,List.nil_append,List.map_append]
theorem dw.bK(x:dw):x.enc.length=4:=by
 simp only[dw.aB,ak.bK,List.length_append,List.length_cons,List.length_nil]
def dw.sz(x:dw):Nat:=bG x.enc
theorem dw.bZ(x:dw):bG x.enc=x.sz:=rfl
structure aS where
 aZ:List UInt8
 fType:ak
def aS.enc(x:aS):List D:=[.s x.aZ]++(x.fType.enc)
theorem aS.aB(x:aS):x.enc=[.s x.aZ]++(x.fType.enc):=rfl
theorem aS.eta(x:aS):aS.mk x.aZ x.fType=x:=rfl
theorem aS.ext'{x y:aS}(h0:x.aZ=y.aZ)(h1:x.fType=y.fType):x=y:=by
 cases x;cases y;simp_all
abbrev aS.v(x:aS):V:=.agg [.d (.s x.aZ),.d (.i .i64 x.fType.aH),.d (.s x.fType.fName),.d (.sl (x.fType.fArgs.map ak.enc))]
theorem aS.ou(x:aS): .agg (x.enc.map .d)=x.v:=by
 simp only[aS.aB,ak.aB,List.map_cons,List.map_nil,List.cons_append,List.nil_append,List.map_append]
theorem aS.bK(x:aS):x.enc.length=4:=by
 simp only[aS.aB,ak.bK,List.length_append,List.length_cons,List.length_nil]
def aS.sz(x:aS):Nat:=bG x.enc
theorem aS.bZ(x:aS):bG x.enc=x.sz:=rfl
mutual
inductive au where
 |mk (aH:Int) (aZ:List UInt8) (fName:List UInt8) (fN:Int) (fType:ak) (fArgs:List au) (aI:List aJ)
inductive aJ where
 |mk (bO:List UInt8) (aW:List (List UInt8)) (fBody:au)
end
def au.aH:au->Int| .mk x _ _ _ _ _ _=>x
def au.aZ:au->List UInt8| .mk _ x _ _ _ _ _=>x
def au.fName:au->List UInt8| .mk _ _ x _ _ _ _=>x
def au.fN:au->Int| .mk _ _ _ x _ _ _=>x
def au.fType:au->ak| .mk _ _ _ _ x _ _=>x
def au.fArgs:au->List au| .mk _ _ _ _ _ x _=>x
def au.aI:au->List aJ| .mk _ _ _ _ _ _ x=>x
theorem au.eta(x:au):au.mk x.aH x.aZ x.fName x.fN x.fType x.fArgs x.aI=x:=by cases x;rfl
theorem au.ext{x y:au}(h0:x.aH=y.aH)(h1:x.aZ=y.aZ)(h2:x.fName=y.fName)(h3:x.fN=y.fN)(h4:x.fType=y.fType)(h5:x.fArgs=y.fArgs)(h6:x.aI=y.aI):x=y:=by
 rw[<-au.eta x,<-au.eta y,h0,h1,h2,h3,h4,h5,h6]
def aJ.bO:aJ->List UInt8| .mk x _ _=>x
def aJ.aW:aJ->List (List UInt8)| .mk _ x _=>x
def aJ.fBody:aJ->au| .mk _ _ x=>x
theorem aJ.eta(x:aJ):aJ.mk x.bO x.aW x.fBody=x:=by cases x;rfl
theorem aJ.ext{x y:aJ}(h0:x.bO=y.bO)(h1:x.aW=y.aW)(h2:x.fBody=y.fBody):x=y:=by
 rw[<-aJ.eta x,<-aJ.eta y,h0,h1,h2]
mutual
def au.enc:au->List D
 | .mk a0 a1 a2 a3 a4 a5 a6=>[.i .i64 a0,.s a1,.s a2,.i .i64 a3]++(a4.enc++([.sl (au.encs a5),.sl (aJ.encs a6)]))
def au.encs:List au->List (List D)
 |[]=>[]
 |x::xs=>x.enc::au.encs xs
def aJ.enc:aJ->List D
 | .mk a0 a1 a2=>[.s a0,.sl (a1.map encS)]++(au.enc a2)
def aJ.encs:List aJ->List (List D)
 |[]=>[]
 |x::xs=>x.enc::aJ.encs xs
end
theorem au.iT:∀l,au.encs l=l.map au.enc
 |[]=>rfl
 |x::xs=>by rw[au.encs,List.map_cons,au.iT xs]
theorem aJ.iT:∀l,aJ.encs l=l.map aJ.enc
 |[]=>rfl
 |x::xs=>by rw[aJ.encs,List.map_cons,aJ.iT xs]
theorem au.aB(x:au):x.enc=[.i .i64 x.aH,.s x.aZ,.s x.fName,.i .i64 x.fN]++(x.fType.enc++([.sl (x.fArgs.map au.enc),.sl (x.aI.map aJ.enc)])):=by
 cases x;simp only[au.enc,au.iT,aJ.iT,au.aH,au.aZ,au.fName,au.fN,au.fType,au.fArgs,au.aI]
theorem aJ.aB(x:aJ):x.enc=[.s x.bO,.sl (x.aW.map encS)]++(x.fBody.enc):=by
 cases x;simp only[aJ.enc,au.iT,aJ.iT,aJ.bO,aJ.aW,aJ.fBody]
abbrev au.v(x:au):V:=.agg [.d (.i .i64 x.aH),.d (.s x.aZ),.d (.s x.fName),.d (.i .i64 x.fN),.d (.i .i64 x.fType.aH),.d (.s x.fType.fName),.d (.sl (x.fType.fArgs.map ak.enc)),.d (.sl (x.fArgs.map au.enc)),.d (.sl (x.aI.map aJ.enc))]
theorem au.ou(x:au): .agg (x.enc.map .d)=x.v:=by
 simp only[au.aB,ak.aB,List.map_cons,List.map_nil,List.cons_append,List.nil_append,List.map_append]
theorem au.bK(x:au):x.enc.length=9:=by
 simp only[au.aB,ak.bK,List.length_append,List.length_cons,List.length_nil]
def au.sz(x:au):Nat:=bG x.enc
theorem au.bZ(x:au):bG x.enc=x.sz:=rfl
theorem au.iy(x:au):SizeOf.sizeOf x.fArgs<SizeOf.sizeOf x:=by cases x;simp[au.fArgs];omega
theorem au.tC(x:au):SizeOf.sizeOf x.aI<SizeOf.sizeOf x:=by cases x;simp[au.aI];omega
abbrev aJ.v(x:aJ):V:=.agg [.d (.s x.bO),.d (.sl (x.aW.map encS)),.d (.i .i64 x.fBody.aH),.d (.s x.fBody.aZ),.d (.s x.fBody.fName),.d (.i .i64 x.fBody.fN),.d (.i .i64 x.fBody.fType.aH),.d (.s x.fBody.fType.fName),.d (.sl (x.fBody.fType.fArgs.map ak.enc)),.d (.sl (x.fBody.fArgs.map au.enc)),.d (.sl (x.fBody.aI.map aJ.enc))]
theorem aJ.ou(x:aJ): .agg (x.enc.map .d)=x.v:=by
 simp only[aJ.aB,au.aB,ak.aB,List.map_cons,List.map_nil,List.cons_append,List.nil_append,List.map_append]
theorem aJ.bK(x:aJ):x.enc.length=11:=by
 simp only[aJ.aB,au.bK,List.length_append,List.length_cons,List.length_nil]
def aJ.sz(x:aJ):Nat:=bG x.enc
theorem aJ.bZ(x:aJ):bG x.enc=x.sz:=rfl
theorem aJ.rC(x:aJ):SizeOf.sizeOf x.fBody<SizeOf.sizeOf x:=by cases x;simp[aJ.fBody];omega
inductive ah where
 |mk (aM:List UInt8) (aj:List ah)
def ah.aM:ah->List UInt8| .mk x _=>x
def ah.aj:ah->List ah| .mk _ x=>x
theorem ah.eta(x:ah):ah.mk x.aM x.aj=x:=by cases x;rfl
theorem ah.ext{x y:ah}(h0:x.aM=y.aM)(h1:x.aj=y.aj):x=y:=by
 rw[<-ah.eta x,<-ah.eta y,h0,h1]
mutual
def ah.enc:ah->List D
 | .mk a0 a1=>[.s a0,.sl (ah.encs a1)]
def ah.encs:List ah->List (List D)
 |[]=>[]
 |x::xs=>x.enc::ah.encs xs
end
theorem ah.iT:∀l,ah.encs l=l.map ah.enc
 |[]=>rfl
 |x::xs=>by rw[ah.encs,List.map_cons,ah.iT xs]
theorem ah.aB(x:ah):x.enc=[.s x.aM,.sl (x.aj.map ah.enc)]:=by
 cases x;simp only[ah.enc,ah.iT,ah.aM,ah.aj]
abbrev ah.v(x:ah):V:=.agg [.d (.s x.aM),.d (.sl (x.aj.map ah.enc))]
theorem ah.ou(x:ah): .agg (x.enc.map .d)=x.v:=by
 simp only[ah.aB,List.map_cons,List.map_nil,List.cons_append,List.nil_append,List.map_append]
theorem ah.bK(x:ah):x.enc.length=2:=by
 simp only[ah.aB,List.length_append,List.length_cons,List.length_nil]
def ah.sz(x:ah):Nat:=bG x.enc
theorem ah.bZ(x:ah):bG x.enc=x.sz:=rfl
theorem ah.ow(x:ah):SizeOf.sizeOf x.aj<SizeOf.sizeOf x:=by cases x;simp[ah.aj];omega
structure bN where
 fName:List UInt8
 aV:List ak
 bR:ak
 qg:Bool
 aW:List (List UInt8)
 fBody:au
def bN.enc(x:bN):List D:=[.s x.fName,.sl (x.aV.map ak.enc)]++(x.bR.enc++([.b x.qg,.sl (x.aW.map encS)]++(x.fBody.enc)))
theorem bN.aB(x:bN):x.enc=[.s x.fName,.sl (x.aV.map ak.enc)]++(x.bR.enc++([.b x.qg,.sl (x.aW.map encS)]++(x.fBody.enc))):=rfl
theorem bN.eta(x:bN):bN.mk x.fName x.aV x.bR x.qg x.aW x.fBody=x:=rfl
theorem bN.ext'{x y:bN}(h0:x.fName=y.fName)(h1:x.aV=y.aV)(h2:x.bR=y.bR)(h3:x.qg=y.qg)(h4:x.aW=y.aW)(h5:x.fBody=y.fBody):x=y:=by
 cases x;cases y;simp_all
abbrev bN.v(x:bN):V:=.agg [.d (.s x.fName),.d (.sl (x.aV.map ak.enc)),.d (.i .i64 x.bR.aH),.d (.s x.bR.fName),.d (.sl (x.bR.fArgs.map ak.enc)),.d (.b x.qg),.d (.sl (x.aW.map encS)),.d (.i .i64 x.fBody.aH),.d (.s x.fBody.aZ),.d (.s x.fBody.fName),.d (.i .i64 x.fBody.fN),.d (.i .i64 x.fBody.fType.aH),.d (.s x.fBody.fType.fName),.d (.sl (x.fBody.fType.fArgs.map ak.enc)),.d (.sl (x.fBody.fArgs.map au.enc)),.d (.sl (x.fBody.aI.map aJ.enc))]
theorem bN.ou(x:bN): .agg (x.enc.map .d)=x.v:=by
 simp only[bN.aB,au.aB,ak.aB,List.map_cons,List.map_nil,List.cons_append,List.nil_append,List.map_append]
theorem bN.bK(x:bN):x.enc.length=16:=by
 simp only[bN.aB,au.bK,ak.bK,List.length_append,List.length_cons,List.length_nil]
def bN.sz(x:bN):Nat:=bG x.enc
theorem bN.bZ(x:bN):bG x.enc=x.sz:=rfl
structure eG where
 fName:List UInt8
 jv:List (List UInt8)
 Fj:Bool
 kM:Bool
 j4:List bN
def eG.enc(x:eG):List D:=[.s x.fName,.sl (x.jv.map encS),.b x.Fj,.b x.kM,.sl (x.j4.map bN.enc)]
theorem eG.aB(x:eG):x.enc=[.s x.fName,.sl (x.jv.map encS),.b x.Fj,.b x.kM,.sl (x.j4.map bN.enc)]:=rfl
theorem eG.eta(x:eG):eG.mk x.fName x.jv x.Fj x.kM x.j4=x:=rfl
theorem eG.ext'{x y:eG}(h0:x.fName=y.fName)(h1:x.jv=y.jv)(h2:x.Fj=y.Fj)(h3:x.kM=y.kM)(h4:x.j4=y.j4):x=y:=by
 cases x;cases y;simp_all
abbrev eG.v(x:eG):V:=.agg [.d (.s x.fName),.d (.sl (x.jv.map encS)),.d (.b x.Fj),.d (.b x.kM),.d (.sl (x.j4.map bN.enc))]
theorem eG.ou(x:eG): .agg (x.enc.map .d)=x.v:=by
 simp only[eG.aB,List.map_cons,List.map_nil,List.cons_append,List.nil_append,List.map_append]
theorem eG.bK(x:eG):x.enc.length=5:=by
 simp only[eG.aB,List.length_append,List.length_cons,List.length_nil]
def eG.sz(x:eG):Nat:=bG x.enc
theorem eG.bZ(x:eG):bG x.enc=x.sz:=rfl
structure bH where
 fName:List UInt8
 oz:List ak
def bH.enc(x:bH):List D:=[.s x.fName,.sl (x.oz.map ak.enc)]
theorem bH.aB(x:bH):x.enc=[.s x.fName,.sl (x.oz.map ak.enc)]:=rfl
theorem bH.eta(x:bH):bH.mk x.fName x.oz=x:=rfl
theorem bH.ext'{x y:bH}(h0:x.fName=y.fName)(h1:x.oz=y.oz):x=y:=by
 cases x;cases y;simp_all
abbrev bH.v(x:bH):V:=.agg [.d (.s x.fName),.d (.sl (x.oz.map ak.enc))]
theorem bH.ou(x:bH): .agg (x.enc.map .d)=x.v:=by
 simp only[bH.aB,List.map_cons,List.map_nil,List.cons_append,List.nil_append,List.map_append]
theorem bH.bK(x:bH):x.enc.length=2:=by
 simp only[bH.aB,List.length_append,List.length_cons,List.length_nil]
def bH.sz(x:bH):Nat:=bG x.enc
theorem bH.bZ(x:bH):bG x.enc=x.sz:=rfl
structure cB where
 fName:List UInt8
 aW:List (List UInt8)
 jE:List bH
def cB.enc(x:cB):List D:=[.s x.fName,.sl (x.aW.map encS),.sl (x.jE.map bH.enc)]
theorem cB.aB(x:cB):x.enc=[.s x.fName,.sl (x.aW.map encS),.sl (x.jE.map bH.enc)]:=rfl
theorem cB.eta(x:cB):cB.mk x.fName x.aW x.jE=x:=rfl
theorem cB.ext'{x y:cB}(h0:x.fName=y.fName)(h1:x.aW=y.aW)(h2:x.jE=y.jE):x=y:=by
 cases x;cases y;simp_all
abbrev cB.v(x:cB):V:=.agg [.d (.s x.fName),.d (.sl (x.aW.map encS)),.d (.sl (x.jE.map bH.enc))]
theorem cB.ou(x:cB): .agg (x.enc.map .d)=x.v:=by
 simp only[cB.aB,List.map_cons,List.map_nil,List.cons_append,List.nil_append,List.map_append]
theorem cB.bK(x:cB):x.enc.length=3:=by
 simp only[cB.aB,List.length_append,List.length_cons,List.length_nil]
def cB.sz(x:cB):Nat:=bG x.enc
theorem cB.bZ(x:cB):bG x.enc=x.sz:=rfl
structure dA where
 fName:List UInt8
 aW:List (List UInt8)
 fBody:au
def dA.enc(x:dA):List D:=[.s x.fName,.sl (x.aW.map encS)]++(x.fBody.enc)
theorem dA.aB(x:dA):x.enc=[.s x.fName,.sl (x.aW.map encS)]++(x.fBody.enc):=rfl
theorem dA.eta(x:dA):dA.mk x.fName x.aW x.fBody=x:=rfl
theorem dA.ext'{x y:dA}(h0:x.fName=y.fName)(h1:x.aW=y.aW)(h2:x.fBody=y.fBody):x=y:=by
 cases x;cases y;simp_all
abbrev dA.v(x:dA):V:=.agg [.d (.s x.fName),.d (.sl (x.aW.map encS)),.d (.i .i64 x.fBody.aH),.d (.s x.fBody.aZ),.d (.s x.fBody.fName),.d (.i .i64 x.fBody.fN),.d (.i .i64 x.fBody.fType.aH),.d (.s x.fBody.fType.fName),.d (.sl (x.fBody.fType.fArgs.map ak.enc)),.d (.sl (x.fBody.fArgs.map au.enc)),.d (.sl (x.fBody.aI.map aJ.enc))]
theorem dA.ou(x:dA): .agg (x.enc.map .d)=x.v:=by
 simp only[dA.aB,au.aB,ak.aB,List.map_cons,List.map_nil,List.cons_append,List.nil_append,List.map_append]
theorem dA.bK(x:dA):x.enc.length=11:=by
 simp only[dA.aB,au.bK,List.length_append,List.length_cons,List.length_nil]
def dA.sz(x:dA):Nat:=bG x.enc
theorem dA.bZ(x:dA):bG x.enc=x.sz:=rfl
structure cK where
 aZ:List UInt8
 aW:List (List UInt8)
 uU:ak
 dQ:List aS
 vM:Bool
 tF:Bool
 kM:ak
 nR:List dA
def cK.enc(x:cK):List D:=[.s x.aZ,.sl (x.aW.map encS)]++(x.uU.enc++([.sl (x.dQ.map aS.enc),.b x.vM,.b x.tF]++(x.kM.enc++([.sl (x.nR.map dA.enc)]))))
theorem cK.aB(x:cK):x.enc=[.s x.aZ,.sl (x.aW.map encS)]++(x.uU.enc++([.sl (x.dQ.map aS.enc),.b x.vM,.b x.tF]++(x.kM.enc++([.sl (x.nR.map dA.enc)])))):=rfl
theorem cK.eta(x:cK):cK.mk x.aZ x.aW x.uU x.dQ x.vM x.tF x.kM x.nR=x:=rfl
theorem cK.ext'{x y:cK}(h0:x.aZ=y.aZ)(h1:x.aW=y.aW)(h2:x.uU=y.uU)(h3:x.dQ=y.dQ)(h4:x.vM=y.vM)(h5:x.tF=y.tF)(h6:x.kM=y.kM)(h7:x.nR=y.nR):x=y:=by
 cases x;cases y;simp_all
abbrev cK.v(x:cK):V:=.agg [.d (.s x.aZ),.d (.sl (x.aW.map encS)),.d (.i .i64 x.uU.aH),.d (.s x.uU.fName),.d (.sl (x.uU.fArgs.map ak.enc)),.d (.sl (x.dQ.map aS.enc)),.d (.b x.vM),.d (.b x.tF),.d (.i .i64 x.kM.aH),.d (.s x.kM.fName),.d (.sl (x.kM.fArgs.map ak.enc)),.d (.sl (x.nR.map dA.enc))]
theorem cK.ou(x:cK): .agg (x.enc.map .d)=x.v:=by
 simp only[cK.aB,ak.aB,List.map_cons,List.map_nil,List.cons_append,List.nil_append,List.map_append]
theorem cK.bK(x:cK):x.enc.length=12:=by
 simp only[cK.aB,ak.bK,List.length_append,List.length_cons,List.length_nil]
def cK.sz(x:cK):Nat:=bG x.enc
theorem cK.bZ(x:cK):bG x.enc=x.sz:=rfl
structure bq where
 fName:List UInt8
 fType:ak
def bq.enc(x:bq):List D:=[.s x.fName]++(x.fType.enc)
theorem bq.aB(x:bq):x.enc=[.s x.fName]++(x.fType.enc):=rfl
theorem bq.eta(x:bq):bq.mk x.fName x.fType=x:=rfl
theorem bq.ext'{x y:bq}(h0:x.fName=y.fName)(h1:x.fType=y.fType):x=y:=by
 cases x;cases y;simp_all
abbrev bq.v(x:bq):V:=.agg [.d (.s x.fName),.d (.i .i64 x.fType.aH),.d (.s x.fType.fName),.d (.sl (x.fType.fArgs.map ak.enc))]
theorem bq.ou(x:bq): .agg (x.enc.map .d)=x.v:=by
 simp only[bq.aB,ak.aB,List.map_cons,List.map_nil,List.cons_append,List.nil_append,List.map_append]
theorem bq.bK(x:bq):x.enc.length=4:=by
 simp only[bq.aB,ak.bK,List.length_append,List.length_cons,List.length_nil]
def bq.sz(x:bq):Nat:=bG x.enc
theorem bq.bZ(x:bq):bG x.enc=x.sz:=rfl
structure aO where
 fName:List UInt8
 aW:List (List UInt8)
 dQ:List aS
 aV:List bq
 bR:ak
 fBody:au
def aO.enc(x:aO):List D:=[.s x.fName,.sl (x.aW.map encS),.sl (x.dQ.map aS.enc),.sl (x.aV.map bq.enc)]++(x.bR.enc++(x.fBody.enc))
theorem aO.aB(x:aO):x.enc=[.s x.fName,.sl (x.aW.map encS),.sl (x.dQ.map aS.enc),.sl (x.aV.map bq.enc)]++(x.bR.enc++(x.fBody.enc)):=rfl
theorem aO.eta(x:aO):aO.mk x.fName x.aW x.dQ x.aV x.bR x.fBody=x:=rfl
theorem aO.ext'{x y:aO}(h0:x.fName=y.fName)(h1:x.aW=y.aW)(h2:x.dQ=y.dQ)(h3:x.aV=y.aV)(h4:x.bR=y.bR)(h5:x.fBody=y.fBody):x=y:=by
 cases x;cases y;simp_all
abbrev aO.v(x:aO):V:=.agg [.d (.s x.fName),.d (.sl (x.aW.map encS)),.d (.sl (x.dQ.map aS.enc)),.d (.sl (x.aV.map bq.enc)),.d (.i .i64 x.bR.aH),.d (.s x.bR.fName),.d (.sl (x.bR.fArgs.map ak.enc)),.d (.i .i64 x.fBody.aH),.d (.s x.fBody.aZ),.d (.s x.fBody.fName),.d (.i .i64 x.fBody.fN),.d (.i .i64 x.fBody.fType.aH),.d (.s x.fBody.fType.fName),.d (.sl (x.fBody.fType.fArgs.map ak.enc)),.d (.sl (x.fBody.fArgs.map au.enc)),.d (.sl (x.fBody.aI.map aJ.enc))]
theorem aO.ou(x:aO): .agg (x.enc.map .d)=x.v:=by
 simp only[aO.aB,au.aB,ak.aB,List.map_cons,List.map_nil,List.cons_append,List.nil_append,List.map_append]
theorem aO.bK(x:aO):x.enc.length=16:=by
 simp only[aO.aB,au.bK,ak.bK,List.length_append,List.length_cons,List.length_nil]
def aO.sz(x:aO):Nat:=bG x.enc
theorem aO.bZ(x:aO):bG x.enc=x.sz:=rfl
structure dK where
 fName:List UInt8
 zW:List (List UInt8)
 tH:List eG
 nD:List cB
 nE:List cK
 nG:List aO
def dK.enc(x:dK):List D:=[.s x.fName,.sl (x.zW.map encS),.sl (x.tH.map eG.enc),.sl (x.nD.map cB.enc),.sl (x.nE.map cK.enc),.sl (x.nG.map aO.enc)]
theorem dK.aB(x:dK):x.enc=[.s x.fName,.sl (x.zW.map encS),.sl (x.tH.map eG.enc),.sl (x.nD.map cB.enc),.sl (x.nE.map cK.enc),.sl (x.nG.map aO.enc)]:=rfl
theorem dK.eta(x:dK):dK.mk x.fName x.zW x.tH x.nD x.nE x.nG=x:=rfl
theorem dK.ext'{x y:dK}(h0:x.fName=y.fName)(h1:x.zW=y.zW)(h2:x.tH=y.tH)(h3:x.nD=y.nD)(h4:x.nE=y.nE)(h5:x.nG=y.nG):x=y:=by
 cases x;cases y;simp_all
abbrev dK.v(x:dK):V:=.agg [.d (.s x.fName),.d (.sl (x.zW.map encS)),.d (.sl (x.tH.map eG.enc)),.d (.sl (x.nD.map cB.enc)),.d (.sl (x.nE.map cK.enc)),.d (.sl (x.nG.map aO.enc))]
theorem dK.ou(x:dK): .agg (x.enc.map .d)=x.v:=by
 simp only[dK.aB,List.map_cons,List.map_nil,List.cons_append,List.nil_append,List.map_append]
theorem dK.bK(x:dK):x.enc.length=6:=by
 simp only[dK.aB,List.length_append,List.length_cons,List.length_nil]
def dK.sz(x:dK):Nat:=bG x.enc
theorem dK.bZ(x:dK):bG x.enc=x.sz:=rfl
structure eF where
 oQ:List dK
def eF.enc(x:eF):List D:=[.sl (x.oQ.map dK.enc)]
theorem eF.aB(x:eF):x.enc=[.sl (x.oQ.map dK.enc)]:=rfl
theorem eF.eta(x:eF):eF.mk x.oQ=x:=rfl
theorem eF.ext'{x y:eF}(h0:x.oQ=y.oQ):x=y:=by
 cases x;cases y;simp_all
abbrev eF.v(x:eF):V:=.agg [.d (.sl (x.oQ.map dK.enc))]
theorem eF.ou(x:eF): .agg (x.enc.map .d)=x.v:=by
 simp only[eF.aB,List.map_cons,List.map_nil,List.cons_append,List.nil_append,List.map_append]
theorem eF.bK(x:eF):x.enc.length=1:=by
 simp only[eF.aB,List.length_append,List.length_cons,List.length_nil]
def eF.sz(x:eF):Nat:=bG x.enc
theorem eF.bZ(x:eF):bG x.enc=x.sz:=rfl
structure cu where
 vN:Int
 Tc:Int
def cu.enc(x:cu):List D:=[.i .i64 x.vN,.i .i64 x.Tc]
theorem cu.aB(x:cu):x.enc=[.i .i64 x.vN,.i .i64 x.Tc]:=rfl
theorem cu.eta(x:cu):cu.mk x.vN x.Tc=x:=rfl
theorem cu.ext'{x y:cu}(h0:x.vN=y.vN)(h1:x.Tc=y.Tc):x=y:=by
 cases x;cases y;simp_all
abbrev cu.v(x:cu):V:=.agg [.d (.i .i64 x.vN),.d (.i .i64 x.Tc)]
theorem cu.ou(x:cu): .agg (x.enc.map .d)=x.v:=by
 simp only[cu.aB,List.map_cons,List.map_nil,List.cons_append,List.nil_append,List.map_append]
theorem cu.bK(x:cu):x.enc.length=2:=by
 simp only[cu.aB,List.length_append,List.length_cons,List.length_nil]
def cu.sz(x:cu):Nat:=bG x.enc
theorem cu.bZ(x:cu):bG x.enc=x.sz:=rfl
attribute [go_sem] ak.aB dw.aB aS.aB au.aB aJ.aB ah.aB bN.aB eG.aB bH.aB cB.aB dA.aB cK.aB bq.aB aO.aB dK.aB eF.aB cu.aB encS encI
def Td:List dw->List UInt8->Option ak
 |[],_=>none
 |b::bs,v=>if b.fVar=v then some b.fType else Td bs v
mutual
noncomputable def zh(s:List dw):ak->ak->Option (List dw)
 | .mk k n a,t=>
   if k=1 then
    match Td s n with
    |some u=>if dec (u=t)=true then some s else none
    |none=>some (s++[⟨n,t⟩])
   else if k=t.aH/\n=t.fName/\a.length=t.fArgs.length then rZ s a t.fArgs else none
noncomputable def rZ(s:List dw):List ak->List ak->Option (List dw)
 |[],_=>some s
 |_::_,[]=>none
 |p::ps,t::ts=>
  match zh s p t with
  |some s'=>rZ s' ps ts
  |none=>none
end
mutual
def ak.cnt:ak->Nat
 | .mk _ _ a=>1+ak.dn a
def ak.dn:List ak->Nat
 |[]=>0
 |t::ts=>t.cnt+ak.dn ts
end
theorem ak.lY(t:ak):t.cnt=1+ak.dn t.fArgs:=by cases t;rw[ak.cnt];rfl
mutual
theorem jQ:∀t:ak,t.cnt<=1+t.sz
 | .mk k n a=>by
   have h:=tJ a;rw[ak.cnt]
   have e:(ak.mk k n a).sz=n.length+(a.length+bA (a.map ak.enc)):=by
    simp only[ak.sz,ak.aB,bG,D.sz,List.length_map,ak.fName,ak.fArgs,Nat.add_zero,Nat.zero_add]
   omega
theorem tJ:∀ts:List ak,ak.dn ts<=ts.length+bA (ts.map ak.enc)
 |[]=>by simp[ak.dn]
 |t::ts=>by
  have h1:=jQ t;have h2:=tJ ts;rw[ak.dn,List.length_cons,List.map_cons,bA,ak.bZ];omega
end
mutual
theorem Vr:∀(p:ak)(s:List dw)(t:ak)(s':List dw),zh s p t=some s'->s'.length<=s.length+p.cnt
 | .mk k n a,s,t,s',h=>by
   rw[zh] at h;rw[ak.cnt];split at h
   ·split at h
    ·split at h
     ·cases h;omega
     ·cases h
    ·cases h;simp
   ·split at h
    ·have:=IZ a s t.fArgs s' h;omega
    ·cases h
theorem IZ:∀(ps:List ak)(s:List dw)(ts:List ak)(s':List dw),rZ s ps ts=some s'->s'.length<=s.length+ak.dn ps
 |[],s,ts,s',h=>by rw[rZ] at h;cases h;omega
 |p::ps,s,[],s',h=>by rw[rZ] at h;cases h
 |p::ps,s,t::ts,s',h=>by
  rw[rZ] at h;rw[ak.dn]
  cases hm:zh s p t with
  |none=>rw[hm] at h;cases h
  |some s1=>
   rw[hm] at h;have h1:=Vr p s t s1 hm;have h2:=IZ ps s1 ts s' h;omega
end
def Small(s:List dw):Prop:=∀b∈s,b.fType.sz<=4194304
mutual
theorem Pj:∀(p:ak)(s:List dw)(t:ak)(s':List dw),t.sz<=4194304->Small s->zh s p t=some s'->Small s'
 | .mk k n a,s,t,s',ht,hs,h=>by
   rw[zh] at h;split at h
   ·split at h
    ·split at h
     ·cases h;exact hs
     ·cases h
    ·cases h;intro b hb;rcases List.mem_append.1 hb with hb|hb
     ·exact hs b hb
     ·simp at hb;subst hb;exact ht
   ·split at h
    ·refine D5 a s t.fArgs s' ?_ hs h;intro x hx;have h1:=gD (List.mem_map_of_mem (f:=ak.enc) hx)
     have h2:t.sz=t.fName.length+(t.fArgs.length+bA (t.fArgs.map ak.enc)):=by
      simp only[ak.sz,ak.aB,bG,bQ,D.sz,List.length_map,Nat.add_zero,Nat.zero_add]
     rw[ak.bZ] at h1;omega
    ·cases h
theorem D5:∀(ps:List ak)(s:List dw)(ts:List ak)(s':List dw),(∀t∈ts,t.sz<=4194304)->Small s->rZ s ps ts=some s'->Small s'
 |[],s,ts,s',ht,hs,h=>by rw[rZ] at h;cases h;exact hs
 |p::ps,s,[],s',ht,hs,h=>by rw[rZ] at h;cases h
 |p::ps,s,t::ts,s',ht,hs,h=>by
  rw[rZ] at h
  cases hm:zh s p t with
  |none=>rw[hm] at h;cases h
  |some s1=>
   rw[hm] at h;exact D5 ps s1 ts s' (fun x hx=>ht x (by simp[hx])) (Pj p s t s1 (ht t (by simp)) hs hm) h
end
end Go.Ab
namespace Go.Proofs.YtnceiannponbjaaGreatDoor.Fa
open Go Go.Ab
abbrev fM(t c b:Nat)(z:List C):Prop:=prog.cellsOf t=c/\prog.bytesOf t=b/\(prog.info? t).isSome=true/\gH prog t=some z
theorem fP{t c b:Nat}{z:List C}(h1:prog.cellsOf t=c:=by kernel_rfl)(h2:prog.bytesOf t=b:=by kernel_rfl)(h3:(prog.info? t).isSome=true:=by kernel_rfl)(h4:gH prog t=some z:=by kernel_rfl):fM t c b z:=⟨h1,h2,h3,h4⟩
theorem ty1:fM 1 1 8 [.d (.o .nilFunc)]:=fP
theorem ty2:fM 2 1 8 [.d (.i .i64 0)]:=fP
theorem ty3:fM 3 1 8 [.d (.i .i64 0)]:=fP
theorem ty4:fM 4 1 1 [.d (.b false)]:=fP
theorem aho:zeroV prog 4=some (.bool false):=by kernel_rfl
theorem ty5:fM 5 1 1 [.d (.i .u8 0)]:=fP
theorem ty9:fM 9 1 16 [.d (.s [])]:=fP
theorem aiw:fM 12 1 8 [.d (.i .u64 0)]:=fP
theorem aix:fM 20 1 16 [.d (.o .nilIface)]:=fP
theorem aiy:fM 21 1 4 [.d (.i .i32 0)]:=fP
theorem aiz:fM 22 1 24 [.bE []]:=fP
theorem aiA:fM 23 1 8 [.d (.o .nilFunc)]:=fP
theorem aiB:fM 24 1 24 [.bE []]:=fP
theorem aiC:fM 25 1 24 [.bE []]:=fP
theorem aiD:fM 26 1 24 [.bE []]:=fP
theorem aiE:fM 27 1 24 [.bE []]:=fP
theorem aiF:fM 29 3 48 [.d (.i .i64 0),.d (.s []),.bE []]:=fP
theorem aiG:fM 30 1 24 [.bE []]:=fP
theorem aiH:fM 31 1 24 [.bE []]:=fP
theorem aiI:fM 32 9 144 [.d (.i .i64 0),.d (.s []),.d (.s []),.d (.i .i64 0),.d (.i .i64 0),.d (.s []),.bE [],.bE [],.bE []]:=fP
theorem aiJ:fM 33 9 144 [.d (.i .i64 0),.d (.s []),.d (.s []),.d (.i .i64 0),.d (.i .i64 0),.d (.s []),.bE [],.bE [],.bE []]:=fP
theorem aiK:fM 34 16 280 [.d (.s []),.bE [],.bE [],.bE [],.d (.i .i64 0),.d (.s []),.bE [],.d (.i .i64 0),.d (.s []),.d (.s []),.d (.i .i64 0),.d (.i .i64 0),.d (.s []),.bE [],.bE [],.bE []]:=fP
theorem aiL:fM 35 16 280 [.d (.s []),.bE [],.bE [],.bE [],.d (.i .i64 0),.d (.s []),.bE [],.d (.i .i64 0),.d (.s []),.d (.s []),.d (.i .i64 0),.d (.i .i64 0),.d (.s []),.bE [],.bE [],.bE []]:=fP
theorem aiM:fM 36 1 8 [.d (.o .nilFunc)]:=fP
theorem aiN:fM 37 1 24 [.bE []]:=fP
theorem aiO:fM 39 2 40 [.d (.s []),.bE []]:=fP
theorem aiP:fM 40 1 8 [.d (.o .nilFunc)]:=fP
theorem aiQ:fM 41 1 8 [.d (.o .nilFunc)]:=fP
theorem aiR:fM 42 1 8 [.d (.o .nilFunc)]:=fP
theorem aiS:fM 44 1 8 [.d (.o .nilFunc)]:=fP
theorem aiT:fM 46 1 24 [.bE []]:=fP
theorem aiU:fM 48 5 72 [.d (.s []),.bE [],.d (.b false),.d (.b false),.bE []]:=fP
theorem aiV:fM 49 1 8 [.d (.o .nilFunc)]:=fP
theorem aiW:fM 50 1 8 [.d (.o .nilFunc)]:=fP
theorem aiX:fM 54 1 24 [.bE []]:=fP
theorem aiY:fM 56 12 192 [.d (.s []),.bE [],.d (.i .i64 0),.d (.s []),.bE [],.bE [],.d (.b false),.d (.b false),.d (.i .i64 0),.d (.s []),.bE [],.bE []]:=fP
theorem aiZ:fM 63 1 8 [.d (.o (.pointer none))]:=fP
theorem ai0:fM 64 1 8 [.d (.o .nilFunc)]:=fP
theorem ai1:fM 65 1 8 [.d (.o .nilFunc)]:=fP
theorem ai2:fM 69 4 64 [.d (.s []),.d (.i .i64 0),.d (.s []),.bE []]:=fP
theorem ai3:fM 70 1 8 [.d (.o .nilFunc)]:=fP
theorem ai4:fM 71 1 8 [.d (.o .nilFunc)]:=fP
theorem ai5:fM 75 1 8 [.d (.o .nilFunc)]:=fP
theorem ai6:fM 91 1 8 [.d (.o .nilFunc)]:=fP
theorem ai7:fM 92 1 8 [.d (.o .nilFunc)]:=fP
theorem ai8:fM 93 1 8 [.d (.o .nilFunc)]:=fP
theorem ai9:fM 95 16 264 [.d (.s []),.bE [],.d (.i .i64 0),.d (.s []),.bE [],.d (.b false),.bE [],.d (.i .i64 0),.d (.s []),.d (.s []),.d (.i .i64 0),.d (.i .i64 0),.d (.s []),.bE [],.bE [],.bE []]:=fP
theorem ahp:fM 104 11 184 [.d (.s []),.bE [],.d (.i .i64 0),.d (.s []),.d (.s []),.d (.i .i64 0),.d (.i .i64 0),.d (.s []),.bE [],.bE [],.bE []]:=fP
theorem ahq:fM 105 1 8 [.d (.o .nilFunc)]:=fP
theorem ahr:fM 112 4 64 [.d (.s []),.d (.i .i64 0),.d (.s []),.bE []]:=fP
theorem ahs:fM 119 3 40 [.bE [],.d (.i .i64 0),.d (.i .i64 0)]:=fP
theorem aht:fM 124 11 184 [.d (.s []),.bE [],.d (.i .i64 0),.d (.s []),.d (.s []),.d (.i .i64 0),.d (.i .i64 0),.d (.s []),.bE [],.bE [],.bE []]:=fP
theorem ahu:fM 127 1 8 [.d (.o .nilFunc)]:=fP
theorem ahv:fM 128 1 8 [.d (.o .nilFunc)]:=fP
theorem ahw:fM 129 1 8 [.d (.o .nilFunc)]:=fP
theorem ahx:fM 130 1 8 [.d (.o .nilFunc)]:=fP
theorem ahy:fM 150 1 8 [.d (.o (.map none))]:=fP
theorem ahz:fM 153 1 8 [.d (.o .nilFunc)]:=fP
theorem ahA:fM 171 1 8 [.d (.o .nilFunc)]:=fP
theorem ahB:fM 176 1 24 [.bE []]:=fP
theorem ahC:fM 180 1 8 [.d (.o .nilFunc)]:=fP
theorem ahD:fM 187 1 16 [.d (.o .nilIface)]:=fP
theorem ahE:fM 190 1 8 [.d (.o .nilFunc)]:=fP
theorem ahF:fM 193 1 8 [.d (.o .nilFunc)]:=fP
theorem ahG:fM 200 1 24 [.bE []]:=fP
theorem laidOut:laidOutB prog=true:=by kernel_rfl
theorem own:ownKnob prog.godebug=none:=by kernel_rfl
attribute [go_sem] ty1 underlying1 ty2 underlying2 ty3 underlying3 ty4 underlying4 aho ty5 underlying5 ty9 underlying9 aiw underlying12 aix underlying20 aiy underlying21 aiz underlying22 aiA underlying23 aiB underlying24 aiC underlying25 aiD underlying26 aiE underlying27 aiF underlying29 aiG underlying30 aiH underlying31 aiI underlying32 aiJ underlying33 aiK underlying34 aiL underlying35 aiM underlying36 aiN underlying37 aiO underlying39 aiP underlying40 aiQ underlying41 aiR underlying42 aiS underlying44 aiT underlying46 aiU underlying48 aiV underlying49 aiW underlying50 aiX underlying54 aiY underlying56 aiZ underlying63 ai0 underlying64 ai1 underlying65 ai2 underlying69 ai3 underlying70 ai4 underlying71 ai5 underlying75 ai6 underlying91 ai7 underlying92 ai8 underlying93 ai9 underlying95 ahp underlying104 ahq underlying105 ahr underlying112 ahs underlying119 aht underlying124 ahu underlying127 ahv underlying128 ahw underlying129 ahx underlying130 ahy underlying150 ahz underlying153 ahA underlying171 ahB underlying176 ahC underlying180 ahD underlying187 ahE underlying190 ahF underlying193 ahG underlying200
end Go.Proofs.YtnceiannponbjaaGreatDoor.Fa
namespace Go.Ab
mutual
def au.cnt:au->Nat
 | .mk _ _ _ _ _ a b=>1+(au.dn a+aJ.dn b)
def au.dn:List au->Nat
 |[]=>0
 |x::xs=>x.cnt+au.dn xs
def aJ.cnt:aJ->Nat
 | .mk _ _ b=>b.cnt
def aJ.dn:List aJ->Nat
 |[]=>0
 |x::xs=>x.cnt+aJ.dn xs
end
theorem au.lY(x:au):x.cnt=1+(au.dn x.fArgs+aJ.dn x.aI):=by cases x;rw[au.cnt];rfl
theorem aJ.lY(x:aJ):x.cnt=x.fBody.cnt:=by cases x;rw[aJ.cnt];rfl
theorem au.jR{xs:List au}{i:Nat}(hi:i<xs.length):au.dn (xs.drop i)=xs[i].cnt+au.dn (xs.drop (i+1)):=by rw[List.drop_eq_getElem_cons hi,au.dn]
theorem aJ.jR{xs:List aJ}{i:Nat}(hi:i<xs.length):aJ.dn (xs.drop i)=xs[i].fBody.cnt+aJ.dn (xs.drop (i+1)):=by rw[List.drop_eq_getElem_cons hi,aJ.dn,aJ.lY]
theorem au.zi(x:au):x.fArgs.length+bA (x.fArgs.map au.enc)<=x.sz/\x.aI.length+bA (x.aI.map aJ.enc)<=x.sz:=by
 simp only[au.sz,au.aB,bG,bQ,D.sz,List.length_map];omega
theorem aJ.KP(x:aJ):x.fBody.sz<=x.sz:=by
 simp only[aJ.sz,aJ.aB,au.sz,bG,bQ,D.sz,List.length_map];omega
mutual
theorem au.jQ:∀x:au,x.cnt<=1+x.sz
 | .mk k t n m ty a b=>by
   have h1:=au.tJ a;have h2:=aJ.tJ b;rw[au.cnt];simp only[au.sz,au.aB,bG,bQ,D.sz,List.length_map,au.fArgs,au.aI];omega
theorem au.tJ:∀xs:List au,au.dn xs<=xs.length+bA (xs.map au.enc)
 |[]=>by simp[au.dn]
 |x::xs=>by
  have h1:=au.jQ x;have h2:=au.tJ xs;rw[au.dn,List.length_cons,List.map_cons,bA,au.bZ];omega
theorem aJ.jQ:∀x:aJ,x.cnt<=1+x.sz
 | .mk c v b=>by
   have h1:=au.jQ b;have h2:=aJ.KP (.mk c v b);rw[aJ.cnt];simp only[aJ.fBody] at h2;omega
theorem aJ.tJ:∀xs:List aJ,aJ.dn xs<=xs.length+bA (xs.map aJ.enc)
 |[]=>by simp[aJ.dn]
 |x::xs=>by
  have h1:=aJ.jQ x;have h2:=aJ.tJ xs;rw[aJ.dn,List.length_cons,List.map_cons,bA,aJ.bZ];omega
end
theorem zk:∀n:Nat,∀x:au,SizeOf.sizeOf x<n->x.sz<=4194304->aG prog 175 [x.v] (.c (.d (.i .i64 x.cnt)))
 |0=>fun x h=>by omega
 |n+1=>by
  have ih:=zk n;intro x hn hsz S;have jl:=au.iy x;have Co:=au.tC x;have hp:=au.zi x;have hc:=au.jQ x;have he:=au.lY x;refine zcx [.tmp 2] func175 ntmps175 ?_;simp -implicitDefEqProofs (disch:=omega) only[go_sem]
  refine bC (ι:=Nat×Nat) zmx rfl [1,3,9,10,11] (fun y=>[.c (.ptr (0,0) 0),.c (.d (.i .i64 y.2)),.c (.d (.sl (x.fArgs.map au.enc))),.c (.d (.i .i64 x.fArgs.length)),.c (.d (.i .i64 y.1))]) (fun y=>[.box (x.enc.map .d)]::S)
   (fun y=>y.1<=x.fArgs.length/\x.cnt=y.2+au.dn (x.fArgs.drop y.1)+aJ.dn x.aI) (fun y=>x.fArgs.length-y.1) (0,1) rfl ?_ ⟨Nat.zero_le _,by simp only[List.drop_zero];omega⟩ ?_
  ·simp -implicitDefEqProofs (disch:=omega) only[go_sem]
  rintro⟨i,c⟩ ⟨p1,p2⟩;simp only at p1 p2;simp -implicitDefEqProofs (disch:=omega) only[go_sem]
  with_reducible refine aA (fun hb=> ?_) (fun hb=> ?_)<;>have h:=hb<;>(try simp only[wf_preprocess] at h)<;>simp -implicitDefEqProofs (disch:=omega) only[go_sem,hb]<;>(repeat(with_reducible refine And.intro ?_ ?_;focus first|omega|rfl|assumption|exact⟨_,rfl,rfl⟩|(simp;omega)|(simp;done)))
  ·have hi:i<x.fArgs.length:=by omega
   have hx:x.fArgs[i].sz<=bA (x.fArgs.map au.enc):=gD (List.mem_map_of_mem (List.getElem_mem hi));rw[au.jR hi] at p2
   (repeat(with_reducible refine And.intro ?_ ?_;focus first|omega|rfl|assumption|exact⟨_,rfl,rfl⟩|(simp;omega)|(simp;done)))
   refine ay (ih x.fArgs[i] (by have:=List.sizeOf_lt_of_mem (List.getElem_mem hi);omega) (by omega)) ?_;simp -implicitDefEqProofs (disch:=omega) only[go_sem]<;>(repeat(with_reducible refine And.intro ?_ ?_;focus first|omega|rfl|assumption|exact⟨_,rfl,rfl⟩|(simp;omega)|(simp;done)));rw[show(c:Int)+(x.fArgs[i].cnt:Int)=((c+x.fArgs[i].cnt:Nat):Int) by omega];exact dM 1 (by decide) (i+1,c+x.fArgs[i].cnt) (by simp only;omega) rfl rfl rfl rfl ⟨by simp only;omega,by simp only;omega⟩
  have hi:i=x.fArgs.length:=by omega
  rw[hi,List.drop_length,au.dn] at p2
  refine bC (ι:=Nat×Nat) zmx rfl [3,21,22,23] (fun y=>[.c (.d (.i .i64 y.2)),.c (.d (.sl (x.aI.map aJ.enc))),.c (.d (.i .i64 x.aI.length)),.c (.d (.i .i64 y.1))]) (fun y=>[.box (x.enc.map .d)]::S)
   (fun y=>y.1<=x.aI.length/\x.cnt=y.2+aJ.dn (x.aI.drop y.1)) (fun y=>x.aI.length-y.1) (0,c) rfl ?_ ⟨Nat.zero_le _,by simp only[List.drop_zero];omega⟩ ?_
  ·simp -implicitDefEqProofs (disch:=omega) only[go_sem]
  clear p1 p2 hb h hi i;rintro⟨i,d⟩ ⟨p1,p2⟩;simp only at p1 p2;simp -implicitDefEqProofs (disch:=omega) only[go_sem]
  with_reducible refine aA (fun hb=> ?_) (fun hb=> ?_)<;>have h:=hb<;>(try simp only[wf_preprocess] at h)<;>simp -implicitDefEqProofs (disch:=omega) only[go_sem,hb]<;>(repeat(with_reducible refine And.intro ?_ ?_;focus first|omega|rfl|assumption|exact⟨_,rfl,rfl⟩|(simp;omega)|(simp;done)))
  ·have hi:i<x.aI.length:=by omega
   have hx:x.aI[i].sz<=bA (x.aI.map aJ.enc):=gD (List.mem_map_of_mem (List.getElem_mem hi));have hy:=aJ.KP x.aI[i];have hs:=List.sizeOf_lt_of_mem (List.getElem_mem hi);have hs':=aJ.rC x.aI[i];rw[aJ.jR hi] at p2
   (repeat(with_reducible refine And.intro ?_ ?_;focus first|omega|rfl|assumption|exact⟨_,rfl,rfl⟩|(simp;omega)|(simp;done)))
   refine ay (ih x.aI[i].fBody (by omega) (by omega)) ?_;simp -implicitDefEqProofs (disch:=omega) only[go_sem]<;>(repeat(with_reducible refine And.intro ?_ ?_;focus first|omega|rfl|assumption|exact⟨_,rfl,rfl⟩|(simp;omega)|(simp;done)));rw[show(d:Int)+(x.aI[i].fBody.cnt:Int)=((d+x.aI[i].fBody.cnt:Nat):Int) by omega];exact dM 1 (by decide) (i+1,d+x.aI[i].fBody.cnt) (by simp only;omega) rfl rfl rfl rfl ⟨by simp only;omega,by simp only;omega⟩
  ·have hi:i=x.aI.length:=by omega
   rw[hi,List.drop_length,aJ.dn] at p2;exact int_eq (by omega)
theorem I4(x:au)(hsz:x.sz<=4194304):aG prog 175 [x.v] (.c (.d (.i .i64 x.cnt))):=zk _ x (Nat.lt_succ_self _) hsz
end Go.Ab