/-
  SEVERAL TEXTS IN ONE (merged by program): contracts and models, each with its own heading.
-/
import Derived.Test.YtnceiannponbjaaGreatDoorPartDkbB
import Derived.Carry
import Derived.WideKeyArgs
import Derived.ProofKit
import Derived.OpenShut
import Derived.WalkKit
import Derived.Test.YtnceiannponbjaaGreatDoorChecked
import Derived.Eval
import Derived.KernelRfl
open Go.Proofs Go.Proofs.Tryz
theorem Go.Ab.zmx:Go.Proofs.Tryz.prog.follows .mixedOrders=true:=Go.Proofs.Tryz.checked.mixed
open Go Go.Ab in
theorem Go.Ab.zcx{N:Nat}{S:Store}{f:FuncId}{fn:Func}{c:Code}{args:List V}{post:V->Store->Prop}(rs:List ResultVar)(hf:Tryz.prog.funcs[f]? =some fn)(hN:fn.ntmps=N)(h:CW Tryz.prog N c (Gt Tryz.prog rs post) ⟨kG (args.map (V.up 1)) 0,[]::S⟩)(hb:fn.body=some c:=by exact rfl)(hn:(fn.name== "runtime.NumGoroutine")=false:=by exact rfl)(hr:fn.results.toList=rs:=by exact rfl)(hl:Nat.ble args.length N=true:=by exact rfl)(hok:codeOk N c=true:=by exact rfl):bD Tryz.prog f args S post:=aD (rs:=rs) zmx hf hN hb hn hr hl hok h
set_option linter.unusedSimpArgs false
set_option linter.unusedVariables false
set_option maxRecDepth 4000
namespace Go.Ab
section
variable {P:Program} {S S':Store} {N:Nat} {s:St}
theorem cu{α:Type}{fr:List α}{S:List (List α)}{l j:Nat}:aR (fr::S) (1+l,j)=aR S (l,j):=by rw[Nat.add_comm,bF]
theorem aJ{α:Type}{fr:List α}{S:List (List α)}{l j:Nat}{x:α}:aT (fr::S) (1+l,j) x=fr::aT S (l,j) x:=by rw[Nat.add_comm,aT]
theorem afp{n l j:Nat}:xL n (l,j)=(n+l,j):=rfl
theorem UK{l j:Nat}{es:List (List D)}:C.ret (.bG (1+l,j) es)=some (.bG (l,j) es):=by
 rw[Nat.add_comm];show C.down 1 (.bG (l+1,j) es)=_;simp[C.down]
theorem ret_tsl_0{j:Nat}{es:List (List D)}:C.ret (.bG (0,j) es)=some (.d (.sl es)):=rfl
theorem agQ{x:D}:C.ret (.d x)=some (.d x):=rfl
theorem adC:C.ret .any=some .any:=rfl
theorem adD{es:List (List D)}:C.ret (.bA es)=some (.bA es):=rfl
theorem adE{n:Nat}{es:List (List D)}:C.ret (.jm n es)=some (.jm n es):=rfl
theorem aaQ{cs:List D}:C.ret (.kH cs)=some (.kH cs):=rfl
theorem adF{l j off:Nat}:C.ret (.ptr (1+l,j) off)=some (.ptr (l,j) off):=by
 rw[Nat.add_comm];show C.down 1 (.ptr (l+1,j) off)=_;simp[C.down]
theorem adG{j:Nat}{es es':List (List D)}{k:Key}:C.lQ j es (.bG k es')=.bG k es':=rfl
theorem agR{x:D}:C.qO (.d x)=.d x:=rfl
theorem adH:C.qO .any=.any:=rfl
theorem adI{k:Key}{off:Nat}:C.qO (.ptr k off)=.ptr k off:=rfl
theorem afq{f:Nat}{caps:List (Key×Nat)}:C.qO (.fn f caps)=.fn f caps:=rfl
theorem adJ{k:Key}:C.qO (.gK k)=.gK k:=rfl
theorem aaR{cs:List D}:C.qO (.kH cs)=.kH cs:=rfl
theorem agS{j:Nat}{es:List (List D)}{x:D}:C.lQ j es (.d x)=.d x:=rfl
theorem adK{j:Nat}{es:List (List D)}:C.lQ j es .any=.any:=rfl
theorem adL{j:Nat}{es es':List (List D)}:C.lQ j es (.bA es')=.bA es':=rfl
theorem adM{j:Nat}{es:List (List D)}{k:Key}{off:Nat}:C.lQ j es (.ptr k off)=.ptr k off:=rfl
theorem afr{j:Nat}{es:List (List D)}{f:Nat}{caps:List (Key×Nat)}:C.lQ j es (.fn f caps)=.fn f caps:=rfl
theorem adN{j n:Nat}{es es':List (List D)}:C.lQ j es (.jm n es')=.jm n es':=rfl
theorem adO{n:Nat}{es:List (List D)}:C.qO (.jm n es)=.jm n es:=rfl
theorem aaS{j:Nat}{es:List (List D)}{cs:List D}:C.lQ j es (.kH cs)=.kH cs:=rfl
theorem adP{j i:Nat}{es:List (List D)}:C.lQ j es (.gK (0,i))=if i=j then .d (.sl es) else .gK (0,i):=rfl
theorem bD.aaT{f:FuncId}(i:Nat){es:List (List D)}{aN:Nat}{args:List V}{post post':V->Store->Prop}(hi:args[i]? =some (.c (.bA es)))(hes:∀e∈es,e.length=aN)
 (h:bD P f ((args.map (V.up 1)).set i (.c (.bG (0,0) es))) ([.tok aN es]::S) post)
 (hp:∀r fr S',post r (fr::S')->∃r',r.ret=some r'/\post' r' S'):bD P f args S post':=by
 refine⟨h.1,fun w σ β vs hS hargs=> ?_⟩;obtain⟨v,hv0,⟨hd,ad,n,hval⟩,hone⟩:=hargs.2 i _ hi
 ·have hn:n=es.length:=by rw[hval] at hd;cases hd<;>rfl
  have hg:Grow w σ w σ:=Grow.refl hS.live
  obtain⟨hS',hk,hst⟩:=hS.up1.push (o:=.tok aN es) (h:=v) hg rfl ⟨hd,hes,ad,n,by rw[hval,hn],by omega,.inl hn⟩ (fun b hb=>by
   rw[hval,hn] at hb
   cases ad<;>simp[owns,blk] at hb)
  have hargs':nI w σ ([.tok aN es]::S) ([v]::β) ((args.map (V.up 1)).set i (.c (.bG (0,0) es))) vs:=by
   refine⟨by have:=hargs.1;simpa using this,fun j x hx=> ?_⟩;rw[List.getElem?_set] at hx;by_cases e:i=j
   ·subst e;rw[if_pos rfl] at hx;split at hx
    ·cases hx;refine⟨v,hv0,⟨hd,.tok aN es,rfl,fun a b e=> ?_⟩,hone⟩;obtain⟨_,rfl⟩:=kL (lab:=none) e;exact⟨Nat.le_refl _,fun _=>rfl⟩
    ·cases hx
   ·rw[if_neg e,List.getElem?_map] at hx
    cases ha:args[j]? with
    |none=>rw[ha] at hx;cases hx
    |some y=>
     rw[ha] at hx;cases hx;obtain⟨u,hu,hr⟩:=hargs.2 j y ha;exact⟨u,hu,ER (S:=[.tok aN es]::S) (β:=[v]::β) 1 hr⟩
  refine(h.2 w σ ([v]::β) vs hS' hargs').mono fun e w' ⟨v',r,S1,σ',β',he,hS1,hk1,xA,hr1,hpost⟩=> ?_
  have hO:∀b,Own ([.tok aN es]::S) ([v]::β) b->Own S β b:=by
   rintro b ⟨⟨l,j⟩,o,hv,h1,h2,h3⟩
   cases l with
   |zero=>
    rw[aY] at h1 h2
    cases j with
    |zero=>
     cases h1;cases h2;rw[hval,hn] at h3;cases ad<;>simp[owns,blk] at h3
    |succ j=>simp at h1
   |succ l=>rw[bF] at h1 h2;exact⟨(l,j),o,hv,h1,h2,h3⟩
  cases S1 with
  |nil=>
   obtain⟨o',h1,_⟩:=hk1 (0,0) _ rfl;rw[mI] at h1;cases h1
  |cons fr S1=>
   cases β' with
   |nil=>have:=hS1.shape.1;simp at this
   |cons bo bΩ=>
    obtain⟨r',hr',hp'⟩:=hp r fr S1 hpost;refine⟨v',r',S1,σ',bΩ,he,hS1.Ik,hk1.drop 1,⟨xA.size,xA.os,xA.output,fun b hb ho=>xA.far b hb (fun x=>ho (hO b x)),xA.near,fun b hb=>(xA.own b (wG hb)).imp (hO b) id⟩,NY hr' hr1,hp'⟩
end
attribute [go_sem] cu aJ afp UK ret_tsl_0 agQ adC adD aaQ adF adG agR adH adI afq adJ aaR agS adK adL adM afr aaS adP adE adN adO
section
variable {P:Program} {S S':Store} {N:Nat} {s:St}
theorem DF(S:Store)(β:Hs)(k:Key):Keep S β (aT S k .dead) β:=by
 intro k' o ho;by_cases e:k=k'
 ·subst e;exact⟨.dead,cB _ _ _ _ ho,.inl rfl⟩
 ·exact⟨o,by rw[dO _ _ _ _ e];exact ho,kF.refl _ _⟩
theorem wN{k k':Key}{o:Obj}(h:aR (aT S k .dead) k'=some o):(k=k'/\o=.dead)\/aR S k'=some o:=by
 by_cases e:k=k'
 ·subst e
  cases hg:aR S k with
  |none=>
   have:∀(S:Store)(k:Key),aR S k=none->aT S k .dead=S:=by
    intro S
    induction S with
    |nil=>intro k _;rfl
    |cons fr S ih=>
     rintro⟨l,j⟩ h
     cases l with
     |zero=>
      rw[aY] at h;rw[aT,List.set_eq_of_length_le (List.getElem?_eq_none_iff.1 h)]
     |succ l=>rw[bF] at h;rw[aT,ih _ h]
   rw[this S k hg,hg] at h;cases h
  |some y=>
   rw[cB _ _ _ _ hg] at h;cases h;exact .inl ⟨rfl,rfl⟩
 ·rw[dO _ _ _ _ e] at h;exact .inr h
theorem OD(x:Obj):∀(S:Store)(k:Key),(aT S k x).length=S.length
 |[],k=>rfl
 |fr::S,(0,j)=>by rw[aT];simp
 |fr::S,(l+1,j)=>by rw[aT,List.length_cons,OD x S,List.length_cons]
theorem Sj(x:Obj):∀(S:Store)(k:Key)(l:Nat)(fr:List Obj),(aT S k x)[l]? =some fr->∃zH,S[l]? =some zH/\zH.length=fr.length
 |[],k,l,fr,h=>by simp[aT] at h
 |f::S,(0,j),0,fr,h=>by rw[aT] at h;simp at h;subst h;exact⟨f,rfl,by simp⟩
 |f::S,(0,j),l+1,fr,h=>by rw[aT] at h;exact⟨fr,by simpa using h,rfl⟩
 |f::S,(i+1,j),0,fr,h=>by rw[aT] at h;exact⟨fr,by simpa using h,rfl⟩
 |f::S,(i+1,j),l+1,fr,h=>by
  rw[aT] at h;simpa using Sj x S (i,j) l fr (by simpa using h)
theorem aaU{w:World}{σ:Nat->Nat}{β:Hs}(k:Key)(hS:dH w σ S β):dH w σ (aT S k .dead) β:=by
 have hn:dM w σ w σ:=(Grow.refl hS.live).near;refine⟨fun k' o ho=> ?_,fun k1 k2 o1 o2 h1 h2 b e1 e2 e3 e4 e5 e6=> ?_,⟨by rw[OD];exact hS.shape.1,fun l fr hl=> ?_⟩,hS.live,hS.qI⟩
 ·rcases wN ho with⟨rfl,rfl⟩|ho'
  ·cases hg:aR S k with
   |none=>
    exfalso;have:=DF S β k;rcases wN (S:=S) (k:=k) (k':=k) ho with⟨_,_⟩|h
    ·
     have hne:aR (aT S k .dead) k=none:=by
      have:∀(S:Store)(k:Key),aR S k=none->aR (aT S k Obj.dead) k=none:=by
       intro S
       induction S with
       |nil=>intro k _;rw[aT,mI]
       |cons fr S ih=>
        rintro⟨l,j⟩ h
        cases l with
        |zero=>
         rw[aY] at h;rw[aT,aY,List.set_eq_of_length_le (List.getElem?_eq_none_iff.1 h)];exact h
        |succ l=>rw[bF] at h;rw[aT,bF];exact ih _ h
      exact this S k hg
     rw[hne] at ho;cases ho
    ·rw[hg] at h;cases h
   |some y=>
    obtain⟨h,hh,_⟩:=hS.obj k y hg;exact⟨h,hh,trivial⟩
  ·obtain⟨h,hh,hr⟩:=hS.obj k' o ho';exact⟨h,hh,hr.mono hn ((DF S β k).drop k'.1) fun b _=>⟨rfl,rfl⟩⟩
 ·rcases wN e1 with⟨_,rfl⟩|K9
  ·cases e3
  ·rcases wN e4 with⟨_,rfl⟩|e4'
   ·cases e6
   ·exact hS.apart k1 k2 o1 o2 h1 h2 b K9 e2 e3 e4' e5 e6
 ·obtain⟨zH,h1,h2⟩:=Sj _ S k l fr hl;obtain⟨gr,h3,h4⟩:=hS.shape.2 l zH h1;exact⟨gr,h3,by omega⟩
def Less(r r':V):Prop:=∀w σ S β v,bV w σ S β r v->bV w σ S β r' v
theorem Less.refl(r:V):Less r r:=fun _ _ _ _ _ h=>h
theorem bD.kill{f:FuncId}{args:List V}{post post':V->Store->Prop}(k:Key)(h:bD P f args S post)(hp:∀r S',post r S'->∃r',Less r r'/\(post' r' S'\/post' r' (aT S' k .dead))):bD P f args S post':=by
 refine⟨h.1,fun w σ β vs hS hv=>(h.2 w σ β vs hS hv).mono fun e w' ⟨v,r,S',σ',β',h1,h2,h3,h4,h5,h6⟩=> ?_⟩;obtain⟨r',hl,hp|hp⟩:=hp r S' h6
 ·exact⟨v,r',S',σ',β',h1,h2,h3,h4,hl _ _ _ _ _ h5,hp⟩
 ·have hkeep:=DF S' β' k;refine⟨v,r',aT S' k .dead,σ',β',h1,aaU k h2,h3.trans hkeep,⟨h4.size,h4.os,h4.output,h4.far,h4.near,fun b hb=> ?_⟩,hl _ _ _ _ _ (h5.mono (Grow.refl h2.live).near hkeep),hp⟩;obtain⟨k',o,hv,e1,e2,e3⟩:=hb;rcases wN e1 with⟨_,rfl⟩|K9
  ·cases e3
  ·exact h4.own b ⟨k',o,hv,K9,e2,e3⟩
theorem aH{x y:Obj}:∀(S:Store)(k:Key),aT (aT S k x) k y=aT S k y
 |[],k=>rfl
 |fr::S,(0,j)=>by rw[aT,aT,aT];simp
 |fr::S,(l+1,j)=>by rw[aT,aT,aT,aH S]
theorem zJ{x:Obj}:∀(S:Store)(k:Key),aR S k=some x->aT S k x=S
 |[],k,_=>rfl
 |fr::S,(0,j),h=>by
  rw[aY] at h;rw[aT];congr 1
  exact List.ext_getElem? fun i=>by
   rw[List.getElem?_set];split
   ·rename_i e;subst e;obtain⟨h1,h2⟩:=List.getElem?_eq_some_iff.1 h;simp[h1,h2]
   ·rfl
 |fr::S,(l+1,j),h=>by rw[bF] at h;rw[aT,zJ S _ h]
def rX:List Bool->List V->List V
 |true::m,v::vs=>v::rX m vs
 |false::m,v::vs=>v.qO::rX m vs
 |[],vs=>vs.map V.qO
 |_,[]=>[]
theorem Gu:∀(m:List Bool)(vs:List V),vs.length=(rX m vs).length
 |true::m,v::vs=>by rw[rX,List.length_cons,List.length_cons,Gu m vs]
 |false::m,v::vs=>by rw[rX,List.length_cons,List.length_cons,Gu m vs]
 |[],vs=>by simp[rX]
 |true::m,[]=>rfl
 |false::m,[]=>rfl
theorem Kv:∀(m:List Bool)(vs:List V)(j:Nat)(x y:V),vs[j]? =some x->(rX m vs)[j]? =some y->y=x\/y=x.qO
 |true::m,v::vs,0,x,y,h1,h2=>by rw[rX] at h2;cases h1;cases h2;exact .inl rfl
 |false::m,v::vs,0,x,y,h1,h2=>by rw[rX] at h2;cases h1;cases h2;exact .inr rfl
 |true::m,v::vs,j+1,x,y,h1,h2=>by rw[rX] at h2;exact Kv m vs j x y h1 h2
 |false::m,v::vs,j+1,x,y,h1,h2=>by rw[rX] at h2;exact Kv m vs j x y h1 h2
 |[],vs,j,x,y,h1,h2=>by rw[rX,List.getElem?_map,h1] at h2;cases h2;exact .inr rfl
 |true::m,[],j,x,y,h1,h2=>by simp at h1
 |false::m,[],j,x,y,h1,h2=>by simp at h1
theorem bD.rX(m:List Bool){f:FuncId}{args:List V}{post:V->Store->Prop}(h:bD P f (Go.Ab.rX m args) S post):bD P f args S post:=
 h.weaken (Gu m args) fun j x y hx hy w σ β v hr=>by
  rcases Kv m args j x y hx hy with e|e
  ·rw[e];exact hr
  ·rw[e];exact Od hr
theorem iI(m:List Bool){dr:Option Nat}{f:FuncId}{args:List V}{dst:Option Nat}{K:St->Prop}{r:V}{S1:Store}(hm:acH dr=true)(h:bD P f (rX m args) s.st (fun r' S'=>r'=r/\S'=S1))(hK:K (St.put ⟨s.tm,S1⟩ dst r)):lU P dr f args s dst K:=
 bB hm (h.rX m) hK
end
theorem aG.less{P:Program}{f:FuncId}{args:List V}{r r':V}(h:aG P f args r)(hl:Less r r'):aG P f args r':=
 fun S=>(h S).kill (0,0) fun r1 S' e=>⟨r',by rw[e.1];exact hl,.inl ⟨rfl,e.2⟩⟩
section
variable {P:Program} {S:Store}
def iJ(n:Nat)(caps:List (Key×Nat)):List (Key×Nat):=caps.map fun y=>(xL n y.1,y.2)
theorem UL{n:Nat}:iJ n []=[]:=rfl
theorem QX{n l j off:Nat}{caps:List (Key×Nat)}:iJ n (((l,j),off)::caps)=((n+l,j),off)::iJ n caps:=rfl
theorem Lh{m n:Nat}{caps:List (Key×Nat)}:iJ m (iJ n caps)=iJ (m+n) caps:=by
 unfold iJ;rw[List.map_map];refine List.map_congr_left fun y _=> ?_;simp only[Function.comp,xL,Prod.mk.injEq,and_true];omega
theorem QY{n m g:Nat}{caps:List (Key×Nat)}:C.refs n (.fn g (iJ (m+1) caps))=true:=by
 simp only[C.refs,iJ,List.all_map,List.all_eq_true];intro x _
 have h:0<m+1+x.1.1:=by omega
 simp[Function.comp,lZ,xL,h]
theorem OE{n:Nat}{caps:List (Key×Nat)}:((iJ 1 caps).all fun x=>lZ n x.fst)=true:=QY (m:=0) (g:=0)
theorem OG:∀(F S:Store)(l j:Nat),aR (F++S) (F.length+l,j)=aR S (l,j)
 |[],S,l,j=>by simp
 |fr::F,S,l,j=>by
  rw[List.cons_append,List.length_cons,show F.length+1+l=(F.length+l)+1 from by omega,bF,OG F S l j]
theorem OH(x:Obj):∀(F S:Store)(l j:Nat),aT (F++S) (F.length+l,j) x=F++aT S (l,j) x
 |[],S,l,j=>by simp
 |fr::F,S,l,j=>by
  rw[List.cons_append,List.length_cons,show F.length+1+l=(F.length+l)+1 from by omega,aT,OH x F S l j,List.cons_append]
theorem XU{F S:Store}{j:Nat}:aR (F++S) (F.length,j)=aR S (0,j):=OG F S 0 j
theorem XV{F S:Store}{j:Nat}{x:Obj}:aT (F++S) (F.length,j) x=F++aT S (0,j) x:=OH x F S 0 j
attribute [go_sem] XU XV UL QX
def nJ(P:Program)(g:Nat)(caps:List (Key×Nat))(S:Store)(xs:List V)(r:V):Prop:=
 ∀F:Store,bD P g (xs++yX (iJ F.length caps)) (F++S) (fun r' S'=>r'=r/\S'=F++S)
theorem nJ.push{g:Nat}{caps:List (Key×Nat)}{xs:List V}{r:V}(h:nJ P g caps S xs r)(fr:List Obj):nJ P g (iJ 1 caps) (fr::S) xs r:=fun F=>by
 have:=h (F++[fr]);rw[Lh];simpa using this
theorem nJ.Kw{g:Nat}{xs:List V}{r:V}(h:aG P g xs r):nJ P g [] S xs r:=fun F=>by
 have:=h (F++S);simpa [iJ,yX] using this
def EX(P:Program)(g:Nat)(caps:List (Key×Nat)){α X:Type}(st:α->Store)(I:Nat->α->Prop)(f:α->X->α)(xv:X->V)(ok:X->Prop):Prop:=
 ∀n a u,I (n+1) a->ok u->I n (f a u)/\∀F:Store,bD P g (xv u::yX (iJ F.length caps)) (F++st a) (fun r' S'=>r'=.eG []/\S'=F++st (f a u))
theorem EX.push{g:Nat}{caps:List (Key×Nat)}{α X:Type}{st:α->Store}{I:Nat->α->Prop}{f:α->X->α}{xv:X->V}{ok:X->Prop}(h:EX P g caps st I f xv ok)(fr:List Obj):
 EX P g (iJ 1 caps) (fun a=>fr::st a) I f xv ok:=fun n a u ha hu=>⟨(h n a u ha hu).1,fun F=>by
 have:=(h n a u ha hu).2 (F++[fr]);rw[Lh]
 simpa using this⟩
theorem DI{N:Nat}{c:Code}{Q:Exit->St->Prop}{tm:List (Nat×V)}{own:List Obj}{Ω:Store}(j i aN:Nat)(es:List (List D))(cs:List C)(hj:own[j]? =some (.box cs))(hi:cs[i]? =some (.bA es))(hes:∀e∈es,e.length=aN)
 (h:AW P N c Q ⟨tm,(own.set j (.box (cs.set i (.bG (0,own.length) es)))++[.tok aN es])::Ω⟩):AW P N c Q ⟨tm,own::Ω⟩:=by
 refine jX h fun a w σ β hR=> ?_;obtain⟨bo,bΩ,rfl,hlen⟩:=frames hR;have hjl:=(List.getElem?_eq_some_iff.1 hj).1
 have hg0:aR (own::Ω) (0,j)=some (.box cs):=by rw[aY];exact hj
 obtain⟨hb,FK,hr⟩:=hR.S.obj (0,j) _ hg0;obtain⟨b,cv,ty,rfl,hbc,hσ,hcs⟩:=hr;have hcs:d9 w σ (own::Ω) (bo::bΩ) cs cv.toList:=hcs;obtain⟨v,hv,⟨hd,ad,n,hval⟩,hone⟩:=hcs.2 i _ hi
 have hn:n=es.length:=by rw[hval] at hd;cases hd<;>rfl
 have hg:Grow w σ w σ:=Grow.refl hR.S.live
 obtain⟨hS',hk,hst⟩:=hR.S.push (o:=.tok aN es) (h:=v) hg hlen ⟨hd,hes,ad,n,by rw[hval,hn],by omega,.inl hn⟩ (fun b hb=>by
  rw[hval,hn] at hb
  cases ad<;>simp[owns,blk] at hb)
 have hk1:aR ((own++[.tok aN es])::Ω) (0,j)=some (.box cs):=iR _ _ _ _ _ hg0;have CS:aR ((bo++[v])::bΩ) (0,j)=some (.pointer (some ⟨b,0,none⟩)):=iR _ _ _ _ _ FK;have hko:kF (.box cs) (some (Value.pointer (some ⟨b,0,none⟩))) (.box (cs.set i (.bG (0,own.length) es))) (some (Value.pointer (some ⟨b,0,none⟩))):=.inr ⟨⟨_,rfl⟩,rfl⟩
 have hK:Keep ((own++[.tok aN es])::Ω) ((bo++[v])::bΩ) (aT ((own++[.tok aN es])::Ω) (0,j) (.box (cs.set i (.bG (0,own.length) es)))) (aT ((bo++[v])::bΩ) (0,j) (.pointer (some ⟨b,0,none⟩))):=by
  intro k1 o1 e1;by_cases e:k1=(0,j)
  ·subst e;rw[hk1] at e1;cases e1;exact⟨_,cB _ _ _ _ hk1,by rw[CS,cB _ _ _ _ CS];exact hko⟩
  ·exact⟨o1,(dO _ _ _ _ (Ne.symm e)).trans e1,by rw[dO _ _ _ _ (Ne.symm e)];exact .refl _ _⟩
 have hne:(0,own.length)≠(0,j):=fun e=>by injection e with _ e;omega
 obtain⟨hS2,hk2,uP⟩:=hS'.set (w':=w) (σ':=σ) (o':=.box (cs.set i (.bG (0,own.length) es))) (h':=.pointer (some ⟨b,0,none⟩)) hk1 CS (Nat.le_refl _) rfl rfl (dM.refl _ _) hS'.live (fun _ _ _=>⟨rfl,rfl⟩) hko
  ⟨b,cv,ty,rfl,hbc,hσ,by
    refine⟨by rw[List.length_set];exact hcs.1,fun m x hm=> ?_⟩;rw[List.getElem?_set] at hm;by_cases e:i=m
    ·subst e;rw[if_pos rfl] at hm;split at hm
     ·cases hm;refine⟨v,hv,⟨hd,.tok aN es,?_,fun a1 b1 e1=> ?_⟩,hone⟩
      ·show aR (aT _ (0,j) _) (0,own.length)=_;rw[dO _ _ _ _ (Ne.symm hne),bq]
      ·obtain⟨_,rfl⟩:=kL (lab:=none) e1;refine⟨Nat.le_refl _,fun _=> ?_⟩;show aR (aT _ (0,j) _) (0,own.length)=_;rw[dO _ _ _ _ (Ne.symm hne),<-hlen,bq]
     ·cases hm
    ·rw[if_neg e] at hm;obtain⟨u,hu,hc,ho⟩:=hcs.2 m x hm
     exact⟨u,hu,(hc.mono (dM.refl _ _) hk).mono (dM.refl _ _) hK,ho⟩⟩ (fun _ e=>.inl e)
 have est:aT ((own++[.tok aN es])::Ω) (0,j) (.box (cs.set i (.bG (0,own.length) es)))=(own.set j (.box (cs.set i (.bG (0,own.length) es)))++[.tok aN es])::Ω:=by
  rw[aT,List.set_append_left _ _ hjl]
 rw[est] at hS2 hk2 uP
 exact⟨σ,_,⟨hR.size,hR.defers,hS2,fun u=>((hR.T u).mono (dM.refl _ _) hk).mono (dM.refl _ _) hk2⟩,hst.trans uP,by
  have:=hk.trans hk2
  exact this.tail⟩
end
inductive D.Fit:D->Prop
 |b (x):Fit (.b x)
 |i (k n):Fit (.i k n)
 |s (l) (h:l.length<=9223372036854775807):Fit (.s l)
 |sl (es) (h:es.length<=9223372036854775807) (hh:∀e∈es,∀d∈e,Fit d):Fit (.sl es)
 |o (v):Fit (.o v)
def yZ(cs:List D):Prop:=∀d∈cs,d.Fit
theorem y5:yZ []:=fun d h=>by cases h
theorem zK{d:D}{ds:List D}:yZ (d::ds)<->d.Fit/\yZ ds:=by simp[yZ]
theorem QZ{a b:List D}:yZ (a++b)<->yZ a/\yZ b:=by
 simp only[yZ,List.mem_append];exact⟨fun h=>⟨fun d hd=>h d (.inl hd),fun d hd=>h d (.inr hd)⟩,fun h d hd=>hd.elim (h.1 d) (h.2 d)⟩
def WTF(P:Program)(W:TypeId->List D->Prop):List Field->List D->Prop
 |[],ds=>ds=[]
 |f::fs,ds=>∃a b,ds=a++b/\a.length=P.cellsOf f.type/\W f.type a/\WTF P W fs b
def WT(P:Program):Nat->TypeId->List D->Prop
 |0,_,_=>False
 |n+1,t,ds=>
  match P.underlying t with
  |some .bool=>∃b,ds=[.b b]
  |some (.int k)=>∃x,ds=[.i k x]/\(Lit.int k x).wf=true
  |some .string=>∃l,ds=[.s l]/\l.length<=9223372036854775807
  |some (.slice e)=>∃es,ds=[.sl es]/\es.length<=9223372036854775807/\∀x∈es,x.length=P.cellsOf e/\WT P n e x
  |some (.struct fs)=>WTF P (WT P n) fs.toList ds
  |_=>False
def yj(P:Program):List Field->Nat->Nat->Bool
 |[],a,b=>a==b
 |f::fs,a,b=>f.offset==a&&yj P fs (a+P.cellsOf f.type) b
def Ky(P:Program)(L:List TypeId):Bool:=
 L.all fun t=>match P.underlying t with
  |some .bool|some (.int _)|some .string=>P.cellsOf t==1
  |some (.slice e)=>P.cellsOf t==1&&L.contains e&&decide (0<P.cellsOf e)
  |some (.struct fs)=>yj P fs.toList 0 (P.cellsOf t)&&fs.toList.all fun f=>L.contains f.type
  |_=>false
def jd(w:World)(b:Nat):Nat:=match w.heap[b]? with
 |some (.cells c _ _)=>c.size
 |_=>0
def pY(w:World)(ds:List D)(vs:List Value):Prop:=ds.length=vs.length/\∀(j:Nat)(d:D),ds[j]? =some d->∃v,vs[j]? =some v/\bU w (jd w) d v/\v.oneCell'=true
theorem pY.append{w:World}{a b:List D}{xs ys:List Value}(h1:pY w a xs)(h2:pY w b ys):pY w (a++b) (xs++ys):=by
 refine⟨by simp[h1.1,h2.1],fun j d hj=> ?_⟩;rw[List.getElem?_append] at hj ⊢;have:=h1.1;split at hj
 ·rw[if_pos (by omega)];exact h1.2 j d hj
 ·rw[if_neg (by omega),<-h1.1];exact h2.2 _ d hj
theorem pY.one{w:World}{d:D}{v:Value}(h:bU w (jd w) d v)(h1:v.oneCell'=true):pY w [d] [v]:=by
 refine⟨rfl,fun j x hj=> ?_⟩
 cases j with
 |zero=>cases hj;exact⟨v,rfl,h,h1⟩
 |succ j=>simp at hj
theorem OI{α β:Type}(f:α->Option β):∀(l:List α)(ys:List β),l.mapM f=some ys->ys.length=l.length/\∀(j:Nat)(x:α),l[j]? =some x->∃y,f x=some y/\ys[j]? =some y
 |[],ys,h=>by
  simp at h;subst h;exact⟨rfl,fun j x hj=>by simp at hj⟩
 |a::l,ys,h=>by
  rw[List.mapM_cons] at h
  cases ha:f a with
  |none=>rw[ha] at h;cases h
  |some y=>
   cases hl:l.mapM f with
   |none=>rw[ha,hl] at h;cases h
   |some zs=>
    rw[ha,hl] at h;cases h;obtain⟨h1,h2⟩:=OI f l zs hl;refine⟨by simp[h1],fun j x hj=> ?_⟩
    cases j with
    |zero=>cases hj;exact⟨y,ha,rfl⟩
    |succ j=>exact h2 j x hj
section
variable {H:Type} {enc:TypeId×Value->H} {P:Program} {w:World} {L:List TypeId}
theorem BX{a:Addr}{n:Nat}{vs:List Value}(hn:0<n)(h:w.cells? 0 a n=some vs):a.spot=none/\vs.length=n/\∃c t fz,w.heap[a.block]? =some (.cells c t fz)/\∀j,j<n->∃v,vs[j]? =some v/\c[a.off+j]? =some v:=by
 unfold World.cells? at h;rw[if_pos (Nat.zero_le _)] at h;obtain⟨h1,h2⟩:=OI _ _ _ h;rw[List.length_range] at h1;obtain⟨v0,hv0,_⟩:=h2 0 0 (by simp[hn])
 have M6:a.add 0=a:=by simp[Addr.add]
 rw[M6] at hv0;unfold World.cell? at hv0
 cases hb:w.heap[a.block]? with
 |none=>rw[hb] at hv0;cases hv0
 |some ob=>
  rw[hb] at hv0
  cases ob with
  |map _ _=>cases hv0
  |cells c t fz=>
   have hs:a.spot=none:=by
    cases hsp:a.spot with
    |none=>rfl
    |some x=>rw[hsp] at hv0;simp at hv0
   refine⟨hs,h1,c,t,fz,rfl,fun j hj=> ?_⟩;obtain⟨v,hv,hvs⟩:=h2 j j (by simp[hj]);refine⟨v,hvs,?_⟩;unfold World.cell? at hv;by_cases hj0:j=0
   ·subst hj0;rw[M6,hb] at hv;simp[hs] at hv;simpa using hv
   ·simp[Addr.add,hj0,hb] at hv;exact hv
  |_=>cases hv0
theorem FQ{α:Type}{p:Nat->α->Prop}:∀n:Nat,(∀i,i<n->∃x,p i x)->∃l:List α,l.length=n/\∀(i:Nat)(x:α),l[i]? =some x->p i x
 |0,_=>⟨[],rfl,fun i x h=>by simp at h⟩
 |n+1,h=>by
  obtain⟨l,hl,hp⟩:=FQ n fun i hi=>h i (by omega);obtain⟨x,hx⟩:=h n (by omega);refine⟨l++[x],by simp[hl],fun i y hy=> ?_⟩;rw[List.getElem?_append] at hy;split at hy
  ·exact hp i y hy
  ·rename_i hlt
   have hi:i-l.length<1:=by
    have:=(List.getElem?_eq_some_iff.1 hy).1;simpa using this
   have:i=n:=by omega
   subst this;rw[show i-l.length=0 from by omega] at hy;cases hy;exact hx
theorem XW(hc:Ky P L=true){t:TypeId}(ht:t∈L):(match P.underlying t with
 |some .bool|some (.int _)|some .string=>P.cellsOf t==1
 |some (.slice e)=>P.cellsOf t==1&&L.contains e&&decide (0<P.cellsOf e)
 |some (.struct fs)=>yj P fs.toList 0 (P.cellsOf t)&&fs.toList.all fun f=>L.contains f.type
 |_=>false)=true:=List.all_eq_true.1 hc t ht
theorem Q0{n:Nat}{fs:List Field}{cs:List Value}:∀(off:Nat),off<=cs.length->yj P fs off cs.length=true->
 (∀f∈fs,∃ds,WT P n f.type ds/\pY w ds ((cs.drop f.offset).take (P.cellsOf f.type)))->∃ds,WTF P (WT P n) fs ds/\pY w ds (cs.drop off):=by
 induction fs with
 |nil=>
  intro off _ ht _
  have:off=cs.length:=by simpa [yj] using ht
  exact⟨[],rfl,by simp[this,pY]⟩
 |cons f fs ih=>
  intro off ho ht h;simp only[yj,Bool.and_eq_true,beq_iff_eq] at ht;obtain⟨a,ha1,ha2⟩:=h f (by simp)
  have hle:∀(fs:List Field)(o:Nat),yj P fs o cs.length=true->o<=cs.length:=by
   intro fs
   induction fs with
   |nil=>intro o h;have:o=cs.length:=by simpa [yj] using h
         omega
   |cons g gs ih=>intro o h;simp only[yj,Bool.and_eq_true] at h;have:=ih _ h.2;omega
  have hle':=hle fs _ ht.2;obtain⟨b,hb1,hb2⟩:=ih (off+P.cellsOf f.type) hle' ht.2 fun g hg=>h g (by simp[hg]);rw[ht.1] at ha2;refine⟨a++b,⟨a,b,rfl,?_,ha1,hb1⟩,?_⟩
  ·rw[ha2.1];simp;omega
  ·have:=ha2.append hb2;rw[<-List.drop_drop,List.take_append_drop] at this;exact this
theorem DJ(hc:Ky P L=true){sp:Nat->Bool}{held:Bool}:∀(fuel:Nat)(t:TypeId)(cs:List Value)(x:DataW H×List MemPlace),t∈L->
 DataW.trod enc P w 0 sp held fuel t cs=some x->∃ds,WT P fuel t ds/\pY w ds cs
 |0,t,cs,x,_,h=>by simp[DataW.trod] at h
 |n+1,t,cs,x,ht,h=>by
  have hcl:=XW hc ht
  cases hu:P.underlying t with
  |none=>rw[hu] at hcl;cases hcl
  |some u=>
   rw[hu] at hcl
   cases u with
   |bool=>
    obtain⟨b,rfl,_⟩:=DataW.trod_bool hu h;exact⟨[.b b],by simp only[WT,hu];exact⟨b,rfl⟩,pY.one (.b b) rfl⟩
   |int k=>
    obtain⟨m,rfl,_,hw⟩:=DataW.trod_int hu h;exact⟨[.i k m],by simp only[WT,hu];exact⟨m,rfl,hw⟩,pY.one (.i k m) rfl⟩
   |string=>
    obtain⟨s,rfl,_,hs⟩:=DataW.trod_string hu h
    have hl:s.data.toList.length<=9223372036854775807:=by
     have h1:s.data.toList.length=s.size:=by rw[Array.length_toList];rfl
     rw[h1];exact hs
    refine⟨[.s s.data.toList],?_,pY.one ?_ rfl⟩
    ·simp only[WT,hu];exact⟨_,rfl,hl⟩
    ·exact .s s.data.toList
   |slice e=>
    simp only[Bool.and_eq_true,beq_iff_eq,decide_eq_true_eq,List.contains_iff_mem] at hcl;obtain⟨⟨h1,he⟩,hpos⟩:=hcl;rcases DataW.trod_slice hu h with⟨rfl,_⟩|⟨a,len,cap,elems,rest,m,hm,rfl,_,_,hlc,hcm,hel,hget,_,_⟩
    ·exact⟨[.sl []],by simp only[WT,hu];exact⟨[],rfl,by simp,fun x hx=>by cases hx⟩,pY.one (.nil _ _) rfl⟩
    ·cases hm
     have hall:∀i,i<len->∃ds:List D,ds.length=P.cellsOf e/\WT P n e ds/\∃vs,w.cells? 0 (a.add (i*P.cellsOf e)) (P.cellsOf e)=some vs/\pY w ds vs:=by
      intro i hi;have hg:=hget i hi
      cases hcs:w.cells? 0 (a.add (i*P.cellsOf e)) (P.cellsOf e) with
      |none=>
       rw[hcs] at hg
       have:i<elems.length:=by omega
       rw[List.getElem?_eq_getElem this] at hg;cases hg
      |some vs=>
       rw[hcs] at hg
       have hlt:i<elems.length:=by omega
       rw[List.getElem?_eq_getElem hlt] at hg;obtain⟨ds,hd1,hd2⟩:=DJ hc n e vs _ he hg;have hv:=(BX hpos hcs).2.1;exact⟨ds,by rw[hd2.1,hv],hd1,vs,rfl,hd2⟩
     obtain⟨es,hes,hp⟩:=FQ len hall
     have hwt:WT P (n+1) t [.sl es]:=by
      simp only[WT,hu]
      refine⟨es,rfl,by have:cap<=9223372036854775807:=hcm
                       omega,fun x hx=> ?_⟩
      obtain⟨i,hi⟩:=List.getElem?_of_mem hx;exact⟨(hp i x hi).1,(hp i x hi).2.1⟩
     refine⟨[.sl es],hwt,?_⟩
     cases BI:es with
     |nil=>
      have h0:len=0:=by rw[<-hes,BI];rfl
      subst h0;exact pY.one (.nil _ _) rfl
     |cons e0 es0=>
      have agT:0<len:=by rw[<-hes,BI];simp
      have hlen:∀x∈es,x.length=P.cellsOf e:=fun x hx=>by
       obtain⟨i,hi⟩:=List.getElem?_of_mem hx;exact(hp i x hi).1
      obtain⟨ds0,_,_,vs0,afs,_⟩:=hall 0 agT
      have M6:a.add (0*P.cellsOf e)=a:=by simp[Addr.add]
      rw[M6] at afs;obtain⟨hsp,_,c,tt,fz,hblk,_⟩:=BX hpos afs
      have hcell:∀i r,i<len->r<P.cellsOf e->∃(x:List D) (v:Value) (d:D),es[i]? =some x/\x[r]? =some d/\c[a.off+(i*P.cellsOf e+r)]? =some v/\bU w (jd w) d v:=by
       intro i r hi hr
       have hlt:i<es.length:=by omega
       obtain⟨hx1,hx2,vs,hvs,hrep⟩:=hp i es[i] (List.getElem?_eq_getElem hlt);obtain⟨_,hvl,c',t',ND,hblk',hcc⟩:=BX hpos hvs
       have hb':(a.add (i*P.cellsOf e)).block=a.block:=by unfold Addr.add;split<;>rfl
       have ho':(a.add (i*P.cellsOf e)).off=a.off+i*P.cellsOf e:=by unfold Addr.add;split<;>simp_all
       rw[hb',hblk] at hblk';cases hblk';obtain⟨v,hv1,hv2⟩:=hcc r hr
       have hdr:r<es[i].length:=by omega
       obtain⟨v',hv',hd',_⟩:=hrep.2 r es[i][r] (List.getElem?_eq_getElem hdr);rw[hv1] at hv';cases hv';refine⟨es[i],v,es[i][r],List.getElem?_eq_getElem hlt,List.getElem?_eq_getElem hdr,?_,hd'⟩;rw[ho'] at hv2;rw[<-Nat.add_assoc];exact hv2
      have hbound:a.off+len*P.cellsOf e<=c.size:=by
       obtain⟨_,v,_,_,_,hv,_⟩:=hcell (len-1) (P.cellsOf e-1) (by omega) (by omega);have:=(Array.getElem?_eq_some_iff.1 hv).1
       have e1:(len-1)*P.cellsOf e+P.cellsOf e=len*P.cellsOf e:=by
        rw[<-Nat.succ_mul];congr 1;omega
       omega
      have key:bU w (jd w) (.sl es) (.slice (some ⟨a.block,a.off,none⟩) es.length cap):=by
       refine .sl a.block a.off cap (P.cellsOf e) es (fun j=>(c[a.off+j]?).getD undef) c tt fz (by omega) hlen hblk ?_ (fun j hj=> ?_) (fun j d hj=> ?_)
       ·unfold jd;rw[hblk,hes];exact hbound
       ·have:a.off+j<c.size:=by rw[hes] at hj;omega
        rw[Array.getElem?_eq_getElem this];rfl
       ·have hfl:es.flatten.length=es.length*P.cellsOf e:=gH es _ hlen
        have hjl:j<es.length*P.cellsOf e:=by rw[<-hfl];exact(List.getElem?_eq_some_iff.1 hj).1
        have hi:j/P.cellsOf e<len:=by rw[<-hes];exact(Nat.div_lt_iff_lt_mul hpos).2 hjl
        obtain⟨x,v,d',hx,hd',hv,hr⟩:=hcell (j/P.cellsOf e) (j % P.cellsOf e) hi (Nat.mod_lt _ hpos)
        have hlt':j/P.cellsOf e<es.length:=by omega
        have hfg:=flat_get es (P.cellsOf e) hlen (j/P.cellsOf e) (j % P.cellsOf e) hlt' (Nat.mod_lt _ hpos)
        have hj':j/P.cellsOf e*P.cellsOf e+j % P.cellsOf e=j:=by rw[Nat.mul_comm];exact Nat.div_add_mod j _
        rw[hj',hj] at hfg;rw[List.getElem?_eq_getElem hlt'] at hx;cases hx;rw[hd'] at hfg;cases hfg;rw[hj'] at hv;rw[hv];exact hr
      rw[<-BI];refine pY.one ?_ rfl
      have ha:a=⟨a.block,a.off,none⟩:=by cases a;simp at hsp;simp[hsp]
      rw[ha,<-hes];exact key
   |struct fs=>
    simp only[Bool.and_eq_true] at hcl;obtain⟨htl,hfs⟩:=hcl;obtain⟨xs,m,hm,rfl,hlen,hxs,ah1⟩:=DataW.trod_struct hu h;cases hm;rw[<-hlen] at htl
    obtain⟨ds,h1,h2⟩:=Q0 (w:=w) (n:=n) (cs:=cs) 0 (Nat.zero_le _) htl fun f hf=>by
     obtain⟨i,hi⟩:=List.getElem?_of_mem hf
     have hi':fs[i]? =some f:=by simpa using hi
     have hg:=ah1 i f hi'
     have hlt:i<xs.length:=by
      rw[hxs];exact(Array.getElem?_eq_some_iff.1 hi').1
     rw[List.getElem?_eq_getElem hlt] at hg
     have hfL:f.type∈L:=by
      have:=List.all_eq_true.1 hfs f hf;simpa using this
     exact DJ hc n f.type _ _ hfL hg
    refine⟨ds,by simp only[WT,hu];exact h1,?_⟩;rw[List.drop_zero] at h2;exact h2
   |_=>cases hcl
end
open Go.ChangeShapes Go.WideShapes Go.ChangeAt Go.RowKit
section
variable {H:Type} {enc:TypeId×Value->H} {P:Program} {W W':World} {L:List TypeId} {t:TypeId} {v:Value} {base:Nat}
theorem aaV{d:D}(hv:v.cells.toList=[v])(hL:pY W [d] v.cells.toList):bV W (jd W) [] [] (.c (.d d)) v:=by
 obtain⟨u,h1,h2,h3⟩:=hL.2 0 d rfl;rw[hv] at h1;cases h1;exact⟨h2,h3⟩
theorem XY{e:TypeId}{d:D}(ht:P.underlying t=some (.slice e))(hok:Value.okWide P W .any base t v)(hL:pY W [d] v.cells.toList):bV W (jd W) [] [] (.c (.d d)) v:=by
 obtain⟨a,n,m,rfl⟩:=okWide_slice ht hok;exact aaV rfl hL
theorem XZ:nI W (jd W) [] [] [] []:=⟨rfl,fun j x h=>by simp at h⟩
theorem UM{x:V}{xs:List V}{vs:List Value}(h1:bV W (jd W) [] [] x v)(h2:nI W (jd W) [] [] xs vs):nI W (jd W) [] [] (x::xs) (v::vs):=by
 refine⟨by simp[h2.1],fun j y hj=> ?_⟩
 cases j with
 |zero=>cases hj;exact⟨v,rfl,h1⟩
 |succ j=>exact h2.2 j y hj
theorem aaW(W:World)(hg:Af W (jd W)):dH W (jd W) [] [] where
 qI:=hg
 obj:=fun k o h=>by rw[mI] at h;cases h
 apart:=fun k k' o o' h h' b h1=>by rw[mI] at h1;cases h1
 shape:=⟨rfl,fun l fr h=>by simp at h⟩
 live:=fun b=>by
  by_cases h:b<W.heap.size
  ·exact .inl h
  ·right;unfold jd;rw[Array.getElem?_eq_none (by omega)]
theorem aft{b:Nat}:¬Own [] [] b:=fun⟨k,o,h,h1,_⟩=>by rw[mI] at h1;cases h1
theorem CU(hl:laidOutB P=true)(hsame:∀b,b<W.heap.size->W'.heap[b]? =W.heap[b]?)(sp:Nat->Bool):∀(ts:List TypeId)(vs:List Value)(ds:List (DataW H))(ps:List MemPlace),
 (ts.all fun t=>P.readableRec t&&decide (t<P.types.size))=true->(∀p∈ps,p.block<W.heap.size/\sp p.block=true)->
   DataW.TrodAll enc P W 0 (fun _=>true) true ts vs ds ps->DataW.TrodAll enc P W' 0 sp true ts vs ds ps
 |[],[],[],ps,_,_,h=>h
 |t::ts,v::vs,d::ds,ps,hr,hlt,h=>by
  simp only[List.all_cons,Bool.and_eq_true,decide_eq_true_eq] at hr;obtain⟨p,q,h1,h2,rfl⟩:=h;refine⟨p,q,WideElems.Trod_stays hl hr.1.1 hr.1.2 h1 (fun x hx=> ?_) (fun x hx=>(hlt x (by simp[hx])).2),CU hl hsame sp ts vs ds q hr.2 (fun x hx=>hlt x (by simp[hx])) h2,rfl⟩;have hb:=(hlt x (by simp[hx])).1
  cases x with
  |cell b o=>exact World.cell?_of_block (w:=W) (hsame b hb)
  |map b=>exact hsame b hb
 |[],[],_::_,ps,_,_,h=>h.elim
 |[],_::_,_,ps,_,_,h=>h.elim
 |_::_,[],_,ps,_,_,h=>h.elim
 |_::_,_::_,[],ps,_,_,h=>h.elim
theorem aaX{f:FuncId}{fn:Func}{s:ChangeSpec}{args:Array Value}{ds gs:List (DataW H)}{before:List MemPlace}{vs:List V}{tb:TypeId}(hl:laidOutB P=true)
 (hr:(fn.params.toList.all fun t=>P.readableRec t&&decide (t<P.types.size))=true)(hvars:s.vars=[])(hres:fn.resultTypes= #[tb])(htb:P.underlying tb=some .bool)
 (hs1:(s.fn H (ds++gs)).results=[.lit (.bool true)])(hs2:(s.fn H (ds++gs)).args=ds)(hs3:(s.fn H (ds++gs)).vars=[])
 (hW:DataW.Whole enc P fn.params.toList s.vars false W args.toList ds gs before)(hargs:nI W (jd W) [] [] vs args.toList)
 (hcall:bD P f vs [] fun r _=>r=.c (.d (.b true)))(agU:Af W (jd W):=by(intro g p hm;exact absurd hm List.not_mem_nil)):
 Calls P f args W fun e W'=>∃v,e=.returned v/\s.post enc P fn false true false false W args v W':=by
 have hc:=hcall.2 W (jd W) [] args.toList (aaW W agU) hargs
 have e1:args.toList.toArray=args:=by simp
 rw[e1] at hc;refine hc.mono fun e W' ⟨v,r,S',σ',β',he,hS',hk,hst,hv,hp⟩=> ?_;subst hp;obtain⟨hv,_⟩:=hv;cases hv;refine⟨_,he,?_⟩;have hsame:∀b,b<W.heap.size->W'.heap[b]? =W.heap[b]? :=fun b hb=>(hst.far b hb aft).1;have hlt:=fun p hp=>hW.lt p hp;have hW0:=hW;obtain⟨pa,q,hA,hV,rfl,hz,hn⟩:=hW;rw[hvars] at hV
 have hq:gs=[]/\q=[]:=by
  obtain⟨h1,h2⟩:=trodVars_none hV;exact⟨h1,h2⟩
 obtain⟨rfl,rfl⟩:=hq
 rw[List.append_nil] at *
 refine⟨ds,[],pa,[],pa,[],?_,?_,?_,?_,?_,fun h=>by cases h⟩
 ·simpa using hW0
 ·rw[List.append_nil,hs1,hres];exact trodAll_cons_mk (shut_bool htb _) trodAll_mk0
 ·rw[List.append_nil,hs2];exact CU hl hsame _ _ _ _ _ hr (fun p hp=>⟨hlt p hp,by simpa using hlt p hp⟩) hA
 ·rw[List.append_nil,hs3,hvars];rfl
 ·refine⟨hst.os,hst.output,fun i hi=> ?_⟩;rw[hsame i hi];split<;>simp_all
end
mutual
def D.sz:D->Nat
 | .s l=>l.length
 | .sl es=>es.length+bC es
 | .b _=>0
 | .i _ _=>0
 | .o _=>0
 | .ol _ es=>es.length+bC es
def bN:List D->Nat
 |[]=>0
 |d::ds=>d.sz+bN ds
def bC:List (List D)->Nat
 |[]=>0
 |r::rs=>bN r+bC rs
end
theorem bR:∀(a b:List D),bN (a++b)=bN a+bN b
 |[],b=>by simp[bN]
 |d::ds,b=>by rw[List.cons_append,bN,bR ds b,bN];omega
def lH(left:Int)(n:Nat):Int:=if left-n<0 then -1 else left-n
theorem EY{l:Int}{a:Nat}(h:¬lH l a<0):lH l a=l-a/\0<=l-a:=by
 unfold lH at *
 split at h
 ·omega
 ·rename_i h';exact⟨if_neg h',by omega⟩
theorem BZ{l:Int}{a:Nat}(h:lH l a<0):l-a<0:=by
 unfold lH at *
 split at h<;>omega
theorem EZ{l:Int}{a:Nat}(h:l-a<0):lH l a= -1:=if_pos h
theorem OJ{l:Int}{a:Nat}(h:0<=l-a):lH l a=l-a:=if_neg (by omega)
theorem int_eq{k:IntKind}{a b:Int}(h:a=b):V.c (.d (.i k a))=V.c (.d (.i k b)):=by rw[h]
theorem aI{a b:Bool}(h:a=b):V.c (.d (.b a))=V.c (.d (.b b)):=by rw[h]
noncomputable def dec(p:Prop):Bool:= @decide p (Classical.propDecidable p)
theorem bJ{p:Prop}(h:p):dec p=true:=by simp[dec,h]
theorem aO{p:Prop}(h:¬p):dec p=false:=by simp[dec,h]
theorem iX{p:Prop}(h:dec p=true):p:=by simpa [dec] using h
theorem rz{p:Prop}(h:dec p=false):¬p:=by simpa [dec] using h
theorem wh{p:Prop}:(dec p=true)=p:=by simp[dec]
theorem DK{p:Prop}:(dec p=false)=¬p:=by simp[dec]
attribute [wf_preprocess] wh DK
theorem iT{p q:Prop}(h:p<->q):dec p=dec q:=by rw[propext h]
theorem aaY:dec True=true:=bJ trivial
theorem X0:dec False=false:=aO id
attribute [go_sem] aaY X0
theorem jr{p:Prop}[Decidable p]:decide p=dec p:=by by_cases h:p<;>simp[dec,h]
theorem fI{r:List D}:∀{rs:List (List D)},r∈rs->bN r<=bC rs
 |a::rs,h=>by
  rw[bC];rcases List.mem_cons.1 h with rfl|h
  ·omega
  ·have:=fI h;omega
def DL(z i:Nat)(R rows:List (List D)):Prop:=R.length=rows.length/\(∀r∈R,r.length=z)/\∀j,j<i->R[j]? =rows[j]?
theorem DL.step{z i:Nat}{R rows:List (List D)}{row:List D}(h:DL z i R rows)(hi:rows[i]? =some row)(hr:row.length=z):DL z (i+1) (R.set i (qy (R.getD i []) 0 row)) rows:=by
 obtain⟨h1,h2,h3⟩:=h;have hlt:i<rows.length:=(List.getElem?_eq_some_iff.1 hi).1
 have hs:qy (R.getD i []) 0 row=row:=by
  have hm:R.getD i []∈R:=by
   rw[List.getD_eq_getElem?_getD,List.getElem?_eq_getElem (by omega)];exact List.getElem_mem _
  have:=h2 _ hm;unfold qy;rw[List.take_zero,List.nil_append,Nat.zero_add,hr,List.drop_eq_nil_of_le (by omega),List.append_nil]
 rw[hs];refine⟨by simpa using h1,fun r hr'=> ?_,fun j hj=> ?_⟩
 ·rcases List.mem_or_eq_of_mem_set hr' with h|h
  ·exact h2 r h
  ·rw[h];exact hr
 ·by_cases e:j=i
  ·subst e;rw[hi,List.getElem?_set_self (by omega)]
  ·rw[List.getElem?_set_ne (by omega)];exact h3 j (by omega)
theorem DL.done{z i:Nat}{R rows:List (List D)}(h:DL z i R rows)(hi:rows.length<=i):R=rows:=by
 obtain⟨h1,h2,h3⟩:=h;refine List.ext_getElem? fun j=> ?_;by_cases hj:j<i
 ·exact h3 j hj
 ·rw[List.getElem?_eq_none (by omega),List.getElem?_eq_none (by omega)]
def encS(s:List UInt8):List D:=[.s s]
def encI(n:Int):List D:=[.i .i64 n]
inductive ak where
 |mk (aL:Int) (fName:List UInt8) (fArgs:List ak)
def ak.aL:ak->Int| .mk x _ _=>x
def ak.fName:ak->List UInt8| .mk _ x _=>x
def ak.fArgs:ak->List ak| .mk _ _ x=>x
theorem ak.eta(x:ak):ak.mk x.aL x.fName x.fArgs=x:=by cases x;rfl
theorem ak.ext{x y:ak}(h0:x.aL=y.aL)(h1:x.fName=y.fName)(h2:x.fArgs=y.fArgs):x=y:=by
 rw[<-ak.eta x,<-ak.eta y,h0,h1,h2]
mutual
def ak.enc:ak->List D
 | .mk a0 a1 a2=>[.i .i64 a0,.s a1,.sl (ak.encs a2)]
def ak.encs:List ak->List (List D)
 |[]=>[]
 |x::xs=>x.enc::ak.encs xs
end
theorem ak.jh:∀l,ak.encs l=l.map ak.enc
 |[]=>rfl
 |x::xs=>by rw[ak.encs,List.map_cons,ak.jh xs]
theorem ak.aB(x:ak):x.enc=[.i .i64 x.aL,.s x.fName,.sl (x.fArgs.map ak.enc)]:=by
 cases x;simp only[ak.enc,ak.jh,ak.aL,ak.fName,ak.fArgs]
abbrev ak.v(x:ak):V:=.agg [.d (.i .i64 x.aL),.d (.s x.fName),.d (.sl (x.fArgs.map ak.enc))]
theorem ak.oq(x:ak): .agg (x.enc.map .d)=x.v:=by
 simp only[ak.aB,List.map_cons,List.map_nil,List.cons_append,List.nil_append,List.map_append]
theorem ak.bI(x:ak):x.enc.length=3:=by
 simp only[ak.aB,List.length_append,List.length_cons,List.length_nil]
def ak.sz(x:ak):Nat:=bN x.enc
theorem ak.dQ(x:ak):bN x.enc=x.sz:=rfl
theorem ak.gZ(x:ak):SizeOf.sizeOf x.fArgs<SizeOf.sizeOf x:=by cases x;simp[ak.fArgs];omega
structure dx where
 fVar:List UInt8
 fType:ak
def dx.enc(x:dx):List D:=[.s x.fVar]++(x.fType.enc)
theorem dx.aB(x:dx):x.enc=[.s x.fVar]++(x.fType.enc):=rfl
theorem dx.eta(x:dx):dx.mk x.fVar x.fType=x:=rfl
theorem dx.ext'{x y:dx}(h0:x.fVar=y.fVar)(h1:x.fType=y.fType):x=y:=by
 cases x;cases y;simp_all
abbrev dx.v(x:dx):V:=.agg [.d (.s x.fVar),.d (.i .i64 x.fType.aL),.d (.s x.fType.fName),.d (.sl (x.fType.fArgs.map ak.enc))]
theorem dx.oq(x:dx): .agg (x.enc.map .d)=x.v:=by
 simp only[dx.aB,ak.aB,List.map_cons,List.map_nil,List.cons_append,List.nil_append,List.map_append]
theorem dx.bI(x:dx):x.enc.length=4:=by
 simp only[dx.aB,ak.bI,List.length_append,List.length_cons,List.length_nil]
def dx.sz(x:dx):Nat:=bN x.enc
theorem dx.dQ(x:dx):bN x.enc=x.sz:=rfl
structure bO where
 bE:List UInt8
 fType:ak
def bO.enc(x:bO):List D:=[.s x.bE]++(x.fType.enc)
theorem bO.aB(x:bO):x.enc=[.s x.bE]++(x.fType.enc):=rfl
theorem bO.eta(x:bO):bO.mk x.bE x.fType=x:=rfl
theorem bO.ext'{x y:bO}(h0:x.bE=y.bE)(h1:x.fType=y.fType):x=y:=by
 cases x;cases y;simp_all
abbrev bO.v(x:bO):V:=.agg [.d (.s x.bE),.d (.i .i64 x.fType.aL),.d (.s x.fType.fName),.d (.sl (x.fType.fArgs.map ak.enc))]
theorem bO.oq(x:bO): .agg (x.enc.map .d)=x.v:=by
 simp only[bO.aB,ak.aB,List.map_cons,List.map_nil,List.cons_append,List.nil_append,List.map_append]
theorem bO.bI(x:bO):x.enc.length=4:=by
 simp only[bO.aB,ak.bI,List.length_append,List.length_cons,List.length_nil]
def bO.sz(x:bO):Nat:=bN x.enc
theorem bO.dQ(x:bO):bN x.enc=x.sz:=rfl
mutual
inductive ay where
 |mk (aL:Int) (bE:List UInt8) (fName:List UInt8) (fN:Int) (fType:ak) (fArgs:List ay) (aK:List aM)
inductive aM where
 |mk (bS:List UInt8) (aX:List (List UInt8)) (fBody:ay)
end
def ay.aL:ay->Int| .mk x _ _ _ _ _ _=>x
def ay.bE:ay->List UInt8| .mk _ x _ _ _ _ _=>x
def ay.fName:ay->List UInt8| .mk _ _ x _ _ _ _=>x
def ay.fN:ay->Int| .mk _ _ _ x _ _ _=>x
def ay.fType:ay->ak| .mk _ _ _ _ x _ _=>x
def ay.fArgs:ay->List ay| .mk _ _ _ _ _ x _=>x
def ay.aK:ay->List aM| .mk _ _ _ _ _ _ x=>x
theorem ay.eta(x:ay):ay.mk x.aL x.bE x.fName x.fN x.fType x.fArgs x.aK=x:=by cases x;rfl
theorem ay.ext{x y:ay}(h0:x.aL=y.aL)(h1:x.bE=y.bE)(h2:x.fName=y.fName)(h3:x.fN=y.fN)(h4:x.fType=y.fType)(h5:x.fArgs=y.fArgs)(h6:x.aK=y.aK):x=y:=by
 rw[<-ay.eta x,<-ay.eta y,h0,h1,h2,h3,h4,h5,h6]
def aM.bS:aM->List UInt8| .mk x _ _=>x
def aM.aX:aM->List (List UInt8)| .mk _ x _=>x
def aM.fBody:aM->ay| .mk _ _ x=>x
theorem aM.eta(x:aM):aM.mk x.bS x.aX x.fBody=x:=by cases x;rfl
theorem aM.ext{x y:aM}(h0:x.bS=y.bS)(h1:x.aX=y.aX)(h2:x.fBody=y.fBody):x=y:=by
 rw[<-aM.eta x,<-aM.eta y,h0,h1,h2]
mutual
def ay.enc:ay->List D
 | .mk a0 a1 a2 a3 a4 a5 a6=>[.i .i64 a0,.s a1,.s a2,.i .i64 a3]++(a4.enc++([.sl (ay.encs a5),.sl (aM.encs a6)]))
def ay.encs:List ay->List (List D)
 |[]=>[]
 |x::xs=>x.enc::ay.encs xs
def aM.enc:aM->List D
 | .mk a0 a1 a2=>[.s a0,.sl (a1.map encS)]++(ay.enc a2)
def aM.encs:List aM->List (List D)
 |[]=>[]
 |x::xs=>x.enc::aM.encs xs
end
theorem ay.jh:∀l,ay.encs l=l.map ay.enc
 |[]=>rfl
 |x::xs=>by rw[ay.encs,List.map_cons,ay.jh xs]
theorem aM.jh:∀l,aM.encs l=l.map aM.enc
 |[]=>rfl
 |x::xs=>by rw[aM.encs,List.map_cons,aM.jh xs]
theorem ay.aB(x:ay):x.enc=[.i .i64 x.aL,.s x.bE,.s x.fName,.i .i64 x.fN]++(x.fType.enc++([.sl (x.fArgs.map ay.enc),.sl (x.aK.map aM.enc)])):=by
 cases x;simp only[ay.enc,ay.jh,aM.jh,ay.aL,ay.bE,ay.fName,ay.fN,ay.fType,ay.fArgs,ay.aK]
theorem aM.aB(x:aM):x.enc=[.s x.bS,.sl (x.aX.map encS)]++(x.fBody.enc):=by
 cases x;simp only[aM.enc,ay.jh,aM.jh,aM.bS,aM.aX,aM.fBody]
abbrev ay.v(x:ay):V:=.agg [.d (.i .i64 x.aL),.d (.s x.bE),.d (.s x.fName),.d (.i .i64 x.fN),.d (.i .i64 x.fType.aL),.d (.s x.fType.fName),.d (.sl (x.fType.fArgs.map ak.enc)),.d (.sl (x.fArgs.map ay.enc)),.d (.sl (x.aK.map aM.enc))]
theorem ay.oq(x:ay): .agg (x.enc.map .d)=x.v:=by
 simp only[ay.aB,ak.aB,List.map_cons,List.map_nil,List.cons_append,List.nil_append,List.map_append]
theorem ay.bI(x:ay):x.enc.length=9:=by
 simp only[ay.aB,ak.bI,List.length_append,List.length_cons,List.length_nil]
def ay.sz(x:ay):Nat:=bN x.enc
theorem ay.dQ(x:ay):bN x.enc=x.sz:=rfl
theorem ay.gZ(x:ay):SizeOf.sizeOf x.fArgs<SizeOf.sizeOf x:=by cases x;simp[ay.fArgs];omega
theorem ay.qC(x:ay):SizeOf.sizeOf x.aK<SizeOf.sizeOf x:=by cases x;simp[ay.aK];omega
abbrev aM.v(x:aM):V:=.agg [.d (.s x.bS),.d (.sl (x.aX.map encS)),.d (.i .i64 x.fBody.aL),.d (.s x.fBody.bE),.d (.s x.fBody.fName),.d (.i .i64 x.fBody.fN),.d (.i .i64 x.fBody.fType.aL),.d (.s x.fBody.fType.fName),.d (.sl (x.fBody.fType.fArgs.map ak.enc)),.d (.sl (x.fBody.fArgs.map ay.enc)),.d (.sl (x.fBody.aK.map aM.enc))]
theorem aM.oq(x:aM): .agg (x.enc.map .d)=x.v:=by
 simp only[aM.aB,ay.aB,ak.aB,List.map_cons,List.map_nil,List.cons_append,List.nil_append,List.map_append]
theorem aM.bI(x:aM):x.enc.length=11:=by
 simp only[aM.aB,ay.bI,List.length_append,List.length_cons,List.length_nil]
def aM.sz(x:aM):Nat:=bN x.enc
theorem aM.dQ(x:aM):bN x.enc=x.sz:=rfl
theorem aM.oO(x:aM):SizeOf.sizeOf x.fBody<SizeOf.sizeOf x:=by cases x;simp[aM.fBody];omega
inductive ah where
 |mk (aQ:List UInt8) (aj:List ah)
def ah.aQ:ah->List UInt8| .mk x _=>x
def ah.aj:ah->List ah| .mk _ x=>x
theorem ah.eta(x:ah):ah.mk x.aQ x.aj=x:=by cases x;rfl
theorem ah.ext{x y:ah}(h0:x.aQ=y.aQ)(h1:x.aj=y.aj):x=y:=by
 rw[<-ah.eta x,<-ah.eta y,h0,h1]
mutual
def ah.enc:ah->List D
 | .mk a0 a1=>[.s a0,.sl (ah.encs a1)]
def ah.encs:List ah->List (List D)
 |[]=>[]
 |x::xs=>x.enc::ah.encs xs
end
theorem ah.jh:∀l,ah.encs l=l.map ah.enc
 |[]=>rfl
 |x::xs=>by rw[ah.encs,List.map_cons,ah.jh xs]
theorem ah.aB(x:ah):x.enc=[.s x.aQ,.sl (x.aj.map ah.enc)]:=by
 cases x;simp only[ah.enc,ah.jh,ah.aQ,ah.aj]
abbrev ah.v(x:ah):V:=.agg [.d (.s x.aQ),.d (.sl (x.aj.map ah.enc))]
theorem ah.oq(x:ah): .agg (x.enc.map .d)=x.v:=by
 simp only[ah.aB,List.map_cons,List.map_nil,List.cons_append,List.nil_append,List.map_append]
theorem ah.bI(x:ah):x.enc.length=2:=by
 simp only[ah.aB,List.length_append,List.length_cons,List.length_nil]
def ah.sz(x:ah):Nat:=bN x.enc
theorem ah.dQ(x:ah):bN x.enc=x.sz:=rfl
theorem ah.oP(x:ah):SizeOf.sizeOf x.aj<SizeOf.sizeOf x:=by cases x;simp[ah.aj];omega
structure aF where
 fName:List UInt8
 bL:List ak
 bP:ak
 fq:Bool
 aX:List (List UInt8)
 fBody:ay
def aF.enc(x:aF):List D:=[.s x.fName,.sl (x.bL.map ak.enc)]++(x.bP.enc++([.b x.fq,.sl (x.aX.map encS)]++(x.fBody.enc)))
theorem aF.aB(x:aF):x.enc=[.s x.fName,.sl (x.bL.map ak.enc)]++(x.bP.enc++([.b x.fq,.sl (x.aX.map encS)]++(x.fBody.enc))):=rfl
theorem aF.eta(x:aF):aF.mk x.fName x.bL x.bP x.fq x.aX x.fBody=x:=rfl
theorem aF.ext'{x y:aF}(h0:x.fName=y.fName)(h1:x.bL=y.bL)(h2:x.bP=y.bP)(h3:x.fq=y.fq)(h4:x.aX=y.aX)(h5:x.fBody=y.fBody):x=y:=by
 cases x;cases y;simp_all
abbrev aF.v(x:aF):V:=.agg [.d (.s x.fName),.d (.sl (x.bL.map ak.enc)),.d (.i .i64 x.bP.aL),.d (.s x.bP.fName),.d (.sl (x.bP.fArgs.map ak.enc)),.d (.b x.fq),.d (.sl (x.aX.map encS)),.d (.i .i64 x.fBody.aL),.d (.s x.fBody.bE),.d (.s x.fBody.fName),.d (.i .i64 x.fBody.fN),.d (.i .i64 x.fBody.fType.aL),.d (.s x.fBody.fType.fName),.d (.sl (x.fBody.fType.fArgs.map ak.enc)),.d (.sl (x.fBody.fArgs.map ay.enc)),.d (.sl (x.fBody.aK.map aM.enc))]
theorem aF.oq(x:aF): .agg (x.enc.map .d)=x.v:=by
 simp only[aF.aB,ay.aB,ak.aB,List.map_cons,List.map_nil,List.cons_append,List.nil_append,List.map_append]
theorem aF.bI(x:aF):x.enc.length=16:=by
 simp only[aF.aB,ay.bI,ak.bI,List.length_append,List.length_cons,List.length_nil]
def aF.sz(x:aF):Nat:=bN x.enc
theorem aF.dQ(x:aF):bN x.enc=x.sz:=rfl
structure aU where
 fName:List UInt8
 aV:List (List UInt8)
 jR:Bool
 eX:Bool
 aC:List aF
def aU.enc(x:aU):List D:=[.s x.fName,.sl (x.aV.map encS),.b x.jR,.b x.eX,.sl (x.aC.map aF.enc)]
theorem aU.aB(x:aU):x.enc=[.s x.fName,.sl (x.aV.map encS),.b x.jR,.b x.eX,.sl (x.aC.map aF.enc)]:=rfl
theorem aU.eta(x:aU):aU.mk x.fName x.aV x.jR x.eX x.aC=x:=rfl
theorem aU.ext'{x y:aU}(h0:x.fName=y.fName)(h1:x.aV=y.aV)(h2:x.jR=y.jR)(h3:x.eX=y.eX)(h4:x.aC=y.aC):x=y:=by
 cases x;cases y;simp_all
abbrev aU.v(x:aU):V:=.agg [.d (.s x.fName),.d (.sl (x.aV.map encS)),.d (.b x.jR),.d (.b x.eX),.d (.sl (x.aC.map aF.enc))]
theorem aU.oq(x:aU): .agg (x.enc.map .d)=x.v:=by
 simp only[aU.aB,List.map_cons,List.map_nil,List.cons_append,List.nil_append,List.map_append]
theorem aU.bI(x:aU):x.enc.length=5:=by
 simp only[aU.aB,List.length_append,List.length_cons,List.length_nil]
def aU.sz(x:aU):Nat:=bN x.enc
theorem aU.dQ(x:aU):bN x.enc=x.sz:=rfl
structure aS where
 fName:List UInt8
 oQ:List ak
def aS.enc(x:aS):List D:=[.s x.fName,.sl (x.oQ.map ak.enc)]
theorem aS.aB(x:aS):x.enc=[.s x.fName,.sl (x.oQ.map ak.enc)]:=rfl
theorem aS.eta(x:aS):aS.mk x.fName x.oQ=x:=rfl
theorem aS.ext'{x y:aS}(h0:x.fName=y.fName)(h1:x.oQ=y.oQ):x=y:=by
 cases x;cases y;simp_all
abbrev aS.v(x:aS):V:=.agg [.d (.s x.fName),.d (.sl (x.oQ.map ak.enc))]
theorem aS.oq(x:aS): .agg (x.enc.map .d)=x.v:=by
 simp only[aS.aB,List.map_cons,List.map_nil,List.cons_append,List.nil_append,List.map_append]
theorem aS.bI(x:aS):x.enc.length=2:=by
 simp only[aS.aB,List.length_append,List.length_cons,List.length_nil]
def aS.sz(x:aS):Nat:=bN x.enc
theorem aS.dQ(x:aS):bN x.enc=x.sz:=rfl
structure dh where
 fName:List UInt8
 aX:List (List UInt8)
 jS:List aS
def dh.enc(x:dh):List D:=[.s x.fName,.sl (x.aX.map encS),.sl (x.jS.map aS.enc)]
theorem dh.aB(x:dh):x.enc=[.s x.fName,.sl (x.aX.map encS),.sl (x.jS.map aS.enc)]:=rfl
theorem dh.eta(x:dh):dh.mk x.fName x.aX x.jS=x:=rfl
theorem dh.ext'{x y:dh}(h0:x.fName=y.fName)(h1:x.aX=y.aX)(h2:x.jS=y.jS):x=y:=by
 cases x;cases y;simp_all
abbrev dh.v(x:dh):V:=.agg [.d (.s x.fName),.d (.sl (x.aX.map encS)),.d (.sl (x.jS.map aS.enc))]
theorem dh.oq(x:dh): .agg (x.enc.map .d)=x.v:=by
 simp only[dh.aB,List.map_cons,List.map_nil,List.cons_append,List.nil_append,List.map_append]
theorem dh.bI(x:dh):x.enc.length=3:=by
 simp only[dh.aB,List.length_append,List.length_cons,List.length_nil]
def dh.sz(x:dh):Nat:=bN x.enc
theorem dh.dQ(x:dh):bN x.enc=x.sz:=rfl
structure bM where
 fName:List UInt8
 aX:List (List UInt8)
 fBody:ay
def bM.enc(x:bM):List D:=[.s x.fName,.sl (x.aX.map encS)]++(x.fBody.enc)
theorem bM.aB(x:bM):x.enc=[.s x.fName,.sl (x.aX.map encS)]++(x.fBody.enc):=rfl
theorem bM.eta(x:bM):bM.mk x.fName x.aX x.fBody=x:=rfl
theorem bM.ext'{x y:bM}(h0:x.fName=y.fName)(h1:x.aX=y.aX)(h2:x.fBody=y.fBody):x=y:=by
 cases x;cases y;simp_all
abbrev bM.v(x:bM):V:=.agg [.d (.s x.fName),.d (.sl (x.aX.map encS)),.d (.i .i64 x.fBody.aL),.d (.s x.fBody.bE),.d (.s x.fBody.fName),.d (.i .i64 x.fBody.fN),.d (.i .i64 x.fBody.fType.aL),.d (.s x.fBody.fType.fName),.d (.sl (x.fBody.fType.fArgs.map ak.enc)),.d (.sl (x.fBody.fArgs.map ay.enc)),.d (.sl (x.fBody.aK.map aM.enc))]
theorem bM.oq(x:bM): .agg (x.enc.map .d)=x.v:=by
 simp only[bM.aB,ay.aB,ak.aB,List.map_cons,List.map_nil,List.cons_append,List.nil_append,List.map_append]
theorem bM.bI(x:bM):x.enc.length=11:=by
 simp only[bM.aB,ay.bI,List.length_append,List.length_cons,List.length_nil]
def bM.sz(x:bM):Nat:=bN x.enc
theorem bM.dQ(x:bM):bN x.enc=x.sz:=rfl
structure dn where
 bE:List UInt8
 aX:List (List UInt8)
 uR:ak
 ji:List bO
 vJ:Bool
 tK:Bool
 eX:ak
 ou:List bM
def dn.enc(x:dn):List D:=[.s x.bE,.sl (x.aX.map encS)]++(x.uR.enc++([.sl (x.ji.map bO.enc),.b x.vJ,.b x.tK]++(x.eX.enc++([.sl (x.ou.map bM.enc)]))))
theorem dn.aB(x:dn):x.enc=[.s x.bE,.sl (x.aX.map encS)]++(x.uR.enc++([.sl (x.ji.map bO.enc),.b x.vJ,.b x.tK]++(x.eX.enc++([.sl (x.ou.map bM.enc)])))):=rfl
theorem dn.eta(x:dn):dn.mk x.bE x.aX x.uR x.ji x.vJ x.tK x.eX x.ou=x:=rfl
theorem dn.ext'{x y:dn}(h0:x.bE=y.bE)(h1:x.aX=y.aX)(h2:x.uR=y.uR)(h3:x.ji=y.ji)(h4:x.vJ=y.vJ)(h5:x.tK=y.tK)(h6:x.eX=y.eX)(h7:x.ou=y.ou):x=y:=by
 cases x;cases y;simp_all
abbrev dn.v(x:dn):V:=.agg [.d (.s x.bE),.d (.sl (x.aX.map encS)),.d (.i .i64 x.uR.aL),.d (.s x.uR.fName),.d (.sl (x.uR.fArgs.map ak.enc)),.d (.sl (x.ji.map bO.enc)),.d (.b x.vJ),.d (.b x.tK),.d (.i .i64 x.eX.aL),.d (.s x.eX.fName),.d (.sl (x.eX.fArgs.map ak.enc)),.d (.sl (x.ou.map bM.enc))]
theorem dn.oq(x:dn): .agg (x.enc.map .d)=x.v:=by
 simp only[dn.aB,ak.aB,List.map_cons,List.map_nil,List.cons_append,List.nil_append,List.map_append]
theorem dn.bI(x:dn):x.enc.length=12:=by
 simp only[dn.aB,ak.bI,List.length_append,List.length_cons,List.length_nil]
def dn.sz(x:dn):Nat:=bN x.enc
theorem dn.dQ(x:dn):bN x.enc=x.sz:=rfl
structure dW where
 fName:List UInt8
 fType:ak
def dW.enc(x:dW):List D:=[.s x.fName]++(x.fType.enc)
theorem dW.aB(x:dW):x.enc=[.s x.fName]++(x.fType.enc):=rfl
theorem dW.eta(x:dW):dW.mk x.fName x.fType=x:=rfl
theorem dW.ext'{x y:dW}(h0:x.fName=y.fName)(h1:x.fType=y.fType):x=y:=by
 cases x;cases y;simp_all
abbrev dW.v(x:dW):V:=.agg [.d (.s x.fName),.d (.i .i64 x.fType.aL),.d (.s x.fType.fName),.d (.sl (x.fType.fArgs.map ak.enc))]
theorem dW.oq(x:dW): .agg (x.enc.map .d)=x.v:=by
 simp only[dW.aB,ak.aB,List.map_cons,List.map_nil,List.cons_append,List.nil_append,List.map_append]
theorem dW.bI(x:dW):x.enc.length=4:=by
 simp only[dW.aB,ak.bI,List.length_append,List.length_cons,List.length_nil]
def dW.sz(x:dW):Nat:=bN x.enc
theorem dW.dQ(x:dW):bN x.enc=x.sz:=rfl
structure bZ where
 fName:List UInt8
 aX:List (List UInt8)
 ji:List bO
 bL:List dW
 bP:ak
 fBody:ay
def bZ.enc(x:bZ):List D:=[.s x.fName,.sl (x.aX.map encS),.sl (x.ji.map bO.enc),.sl (x.bL.map dW.enc)]++(x.bP.enc++(x.fBody.enc))
theorem bZ.aB(x:bZ):x.enc=[.s x.fName,.sl (x.aX.map encS),.sl (x.ji.map bO.enc),.sl (x.bL.map dW.enc)]++(x.bP.enc++(x.fBody.enc)):=rfl
theorem bZ.eta(x:bZ):bZ.mk x.fName x.aX x.ji x.bL x.bP x.fBody=x:=rfl
theorem bZ.ext'{x y:bZ}(h0:x.fName=y.fName)(h1:x.aX=y.aX)(h2:x.ji=y.ji)(h3:x.bL=y.bL)(h4:x.bP=y.bP)(h5:x.fBody=y.fBody):x=y:=by
 cases x;cases y;simp_all
abbrev bZ.v(x:bZ):V:=.agg [.d (.s x.fName),.d (.sl (x.aX.map encS)),.d (.sl (x.ji.map bO.enc)),.d (.sl (x.bL.map dW.enc)),.d (.i .i64 x.bP.aL),.d (.s x.bP.fName),.d (.sl (x.bP.fArgs.map ak.enc)),.d (.i .i64 x.fBody.aL),.d (.s x.fBody.bE),.d (.s x.fBody.fName),.d (.i .i64 x.fBody.fN),.d (.i .i64 x.fBody.fType.aL),.d (.s x.fBody.fType.fName),.d (.sl (x.fBody.fType.fArgs.map ak.enc)),.d (.sl (x.fBody.fArgs.map ay.enc)),.d (.sl (x.fBody.aK.map aM.enc))]
theorem bZ.oq(x:bZ): .agg (x.enc.map .d)=x.v:=by
 simp only[bZ.aB,ay.aB,ak.aB,List.map_cons,List.map_nil,List.cons_append,List.nil_append,List.map_append]
theorem bZ.bI(x:bZ):x.enc.length=16:=by
 simp only[bZ.aB,ay.bI,ak.bI,List.length_append,List.length_cons,List.length_nil]
def bZ.sz(x:bZ):Nat:=bN x.enc
theorem bZ.dQ(x:bZ):bN x.enc=x.sz:=rfl
structure dP where
 fName:List UInt8
 zL:List (List UInt8)
 tL:List aU
 nR:List dh
 nS:List dn
 nT:List bZ
def dP.enc(x:dP):List D:=[.s x.fName,.sl (x.zL.map encS),.sl (x.tL.map aU.enc),.sl (x.nR.map dh.enc),.sl (x.nS.map dn.enc),.sl (x.nT.map bZ.enc)]
theorem dP.aB(x:dP):x.enc=[.s x.fName,.sl (x.zL.map encS),.sl (x.tL.map aU.enc),.sl (x.nR.map dh.enc),.sl (x.nS.map dn.enc),.sl (x.nT.map bZ.enc)]:=rfl
theorem dP.eta(x:dP):dP.mk x.fName x.zL x.tL x.nR x.nS x.nT=x:=rfl
theorem dP.ext'{x y:dP}(h0:x.fName=y.fName)(h1:x.zL=y.zL)(h2:x.tL=y.tL)(h3:x.nR=y.nR)(h4:x.nS=y.nS)(h5:x.nT=y.nT):x=y:=by
 cases x;cases y;simp_all
abbrev dP.v(x:dP):V:=.agg [.d (.s x.fName),.d (.sl (x.zL.map encS)),.d (.sl (x.tL.map aU.enc)),.d (.sl (x.nR.map dh.enc)),.d (.sl (x.nS.map dn.enc)),.d (.sl (x.nT.map bZ.enc))]
theorem dP.oq(x:dP): .agg (x.enc.map .d)=x.v:=by
 simp only[dP.aB,List.map_cons,List.map_nil,List.cons_append,List.nil_append,List.map_append]
theorem dP.bI(x:dP):x.enc.length=6:=by
 simp only[dP.aB,List.length_append,List.length_cons,List.length_nil]
def dP.sz(x:dP):Nat:=bN x.enc
theorem dP.dQ(x:dP):bN x.enc=x.sz:=rfl
structure eT where
 pO:List dP
def eT.enc(x:eT):List D:=[.sl (x.pO.map dP.enc)]
theorem eT.aB(x:eT):x.enc=[.sl (x.pO.map dP.enc)]:=rfl
theorem eT.eta(x:eT):eT.mk x.pO=x:=rfl
theorem eT.ext'{x y:eT}(h0:x.pO=y.pO):x=y:=by
 cases x;cases y;simp_all
abbrev eT.v(x:eT):V:=.agg [.d (.sl (x.pO.map dP.enc))]
theorem eT.oq(x:eT): .agg (x.enc.map .d)=x.v:=by
 simp only[eT.aB,List.map_cons,List.map_nil,List.cons_append,List.nil_append,List.map_append]
theorem eT.bI(x:eT):x.enc.length=1:=by
 simp only[eT.aB,List.length_append,List.length_cons,List.length_nil]
def eT.sz(x:eT):Nat:=bN x.enc
theorem eT.dQ(x:eT):bN x.enc=x.sz:=rfl
structure cO where
 vK:Int
 Sk:Int
def cO.enc(x:cO):List D:=[.i .i64 x.vK,.i .i64 x.Sk]
theorem cO.aB(x:cO):x.enc=[.i .i64 x.vK,.i .i64 x.Sk]:=rfl
theorem cO.eta(x:cO):cO.mk x.vK x.Sk=x:=rfl
theorem cO.ext'{x y:cO}(h0:x.vK=y.vK)(h1:x.Sk=y.Sk):x=y:=by
 cases x;cases y;simp_all
abbrev cO.v(x:cO):V:=.agg [.d (.i .i64 x.vK),.d (.i .i64 x.Sk)]
theorem cO.oq(x:cO): .agg (x.enc.map .d)=x.v:=by
 simp only[cO.aB,List.map_cons,List.map_nil,List.cons_append,List.nil_append,List.map_append]
theorem cO.bI(x:cO):x.enc.length=2:=by
 simp only[cO.aB,List.length_append,List.length_cons,List.length_nil]
def cO.sz(x:cO):Nat:=bN x.enc
theorem cO.dQ(x:cO):bN x.enc=x.sz:=rfl
attribute [go_sem] ak.aB dx.aB bO.aB ay.aB aM.aB ah.aB aF.aB aU.aB aS.aB dh.aB bM.aB dn.aB dW.aB bZ.aB dP.aB eT.aB cO.aB encS encI
def Sl:List dx->List UInt8->Option ak
 |[],_=>none
 |b::bs,v=>if b.fVar=v then some b.fType else Sl bs v
mutual
noncomputable def y7(s:List dx):ak->ak->Option (List dx)
 | .mk k n a,t=>
   if k=1 then
    match Sl s n with
    |some u=>if dec (u=t)=true then some s else none
    |none=>some (s++[⟨n,t⟩])
   else if k=t.aL/\n=t.fName/\a.length=t.fArgs.length then su s a t.fArgs else none
noncomputable def su(s:List dx):List ak->List ak->Option (List dx)
 |[],_=>some s
 |_::_,[]=>none
 |p::ps,t::ts=>
  match y7 s p t with
  |some s'=>su s' ps ts
  |none=>none
end
mutual
def ak.cnt:ak->Nat
 | .mk _ _ a=>1+ak.dw a
def ak.dw:List ak->Nat
 |[]=>0
 |t::ts=>t.cnt+ak.dw ts
end
theorem ak.mJ(t:ak):t.cnt=1+ak.dw t.fArgs:=by cases t;rw[ak.cnt];rfl
mutual
theorem kM:∀t:ak,t.cnt<=1+t.sz
 | .mk k n a=>by
   have h:=tO a;rw[ak.cnt]
   have e:(ak.mk k n a).sz=n.length+(a.length+bC (a.map ak.enc)):=by
    simp only[ak.sz,ak.aB,bN,D.sz,List.length_map,ak.fName,ak.fArgs,Nat.add_zero,Nat.zero_add]
   omega
theorem tO:∀ts:List ak,ak.dw ts<=ts.length+bC (ts.map ak.enc)
 |[]=>by simp[ak.dw]
 |t::ts=>by
  have h1:=kM t;have h2:=tO ts;rw[ak.dw,List.length_cons,List.map_cons,bC,ak.dQ];omega
end
mutual
theorem UN:∀(p:ak)(s:List dx)(t:ak)(s':List dx),y7 s p t=some s'->s'.length<=s.length+p.cnt
 | .mk k n a,s,t,s',h=>by
   rw[y7] at h;rw[ak.cnt];split at h
   ·split at h
    ·split at h
     ·cases h;omega
     ·cases h
    ·cases h;simp
   ·split at h
    ·have:=IQ a s t.fArgs s' h;omega
    ·cases h
theorem IQ:∀(ps:List ak)(s:List dx)(ts:List ak)(s':List dx),su s ps ts=some s'->s'.length<=s.length+ak.dw ps
 |[],s,ts,s',h=>by rw[su] at h;cases h;omega
 |p::ps,s,[],s',h=>by rw[su] at h;cases h
 |p::ps,s,t::ts,s',h=>by
  rw[su] at h;rw[ak.dw]
  cases hm:y7 s p t with
  |none=>rw[hm] at h;cases h
  |some s1=>
   rw[hm] at h;have h1:=UN p s t s1 hm;have h2:=IQ ps s1 ts s' h;omega
end
def Small(s:List dx):Prop:=∀b∈s,b.fType.sz<=4194304
mutual
theorem OL:∀(p:ak)(s:List dx)(t:ak)(s':List dx),t.sz<=4194304->Small s->y7 s p t=some s'->Small s'
 | .mk k n a,s,t,s',ht,hs,h=>by
   rw[y7] at h;split at h
   ·split at h
    ·split at h
     ·cases h;exact hs
     ·cases h
    ·cases h;intro b hb;rcases List.mem_append.1 hb with hb|hb
     ·exact hs b hb
     ·simp at hb;subst hb;exact ht
   ·split at h
    ·refine DN a s t.fArgs s' ?_ hs h;intro x hx;have h1:=fI (List.mem_map_of_mem (f:=ak.enc) hx)
     have h2:t.sz=t.fName.length+(t.fArgs.length+bC (t.fArgs.map ak.enc)):=by
      simp only[ak.sz,ak.aB,bN,bR,D.sz,List.length_map,Nat.add_zero,Nat.zero_add]
     rw[ak.dQ] at h1;omega
    ·cases h
theorem DN:∀(ps:List ak)(s:List dx)(ts:List ak)(s':List dx),(∀t∈ts,t.sz<=4194304)->Small s->su s ps ts=some s'->Small s'
 |[],s,ts,s',ht,hs,h=>by rw[su] at h;cases h;exact hs
 |p::ps,s,[],s',ht,hs,h=>by rw[su] at h;cases h
 |p::ps,s,t::ts,s',ht,hs,h=>by
  rw[su] at h
  cases hm:y7 s p t with
  |none=>rw[hm] at h;cases h
  |some s1=>
   rw[hm] at h;exact DN ps s1 ts s' (fun x hx=>ht x (by simp[hx])) (OL p s t s1 (ht t (by simp)) hs hm) h
end
end Go.Ab
namespace Go.Proofs.YtnceiannponbjaaGreatDoor.Fa
open Go Go.Ab
abbrev fQ(t c b:Nat)(z:List C):Prop:=prog.cellsOf t=c/\prog.bytesOf t=b/\(prog.info? t).isSome=true/\gT prog t=some z
theorem fZ{t c b:Nat}{z:List C}(h1:prog.cellsOf t=c:=by kernel_rfl)(h2:prog.bytesOf t=b:=by kernel_rfl)(h3:(prog.info? t).isSome=true:=by kernel_rfl)(h4:gT prog t=some z:=by kernel_rfl):fQ t c b z:=⟨h1,h2,h3,h4⟩
theorem ty1:fQ 1 1 8 [.d (.o .nilFunc)]:=fZ
theorem ty2:fQ 2 1 8 [.d (.i .i64 0)]:=fZ
theorem ty3:fQ 3 1 8 [.d (.i .i64 0)]:=fZ
theorem ty4:fQ 4 1 1 [.d (.b false)]:=fZ
theorem agV:zeroV prog 4=some (.bool false):=by kernel_rfl
theorem ty5:fQ 5 1 1 [.d (.i .u8 0)]:=fZ
theorem ty9:fQ 9 1 16 [.d (.s [])]:=fZ
theorem ah2:fQ 12 1 8 [.d (.i .u64 0)]:=fZ
theorem ah3:fQ 20 1 16 [.d (.o .nilIface)]:=fZ
theorem ah4:fQ 21 1 4 [.d (.i .i32 0)]:=fZ
theorem ah5:fQ 22 1 24 [.bA []]:=fZ
theorem ah6:fQ 23 1 8 [.d (.o .nilFunc)]:=fZ
theorem ah7:fQ 24 1 24 [.bA []]:=fZ
theorem ah8:fQ 25 1 24 [.bA []]:=fZ
theorem ah9:fQ 26 1 24 [.bA []]:=fZ
theorem aia:fQ 27 1 24 [.bA []]:=fZ
theorem aib:fQ 29 3 48 [.d (.i .i64 0),.d (.s []),.bA []]:=fZ
theorem aic:fQ 30 1 24 [.bA []]:=fZ
theorem aie:fQ 31 1 24 [.bA []]:=fZ
theorem aif:fQ 32 9 144 [.d (.i .i64 0),.d (.s []),.d (.s []),.d (.i .i64 0),.d (.i .i64 0),.d (.s []),.bA [],.bA [],.bA []]:=fZ
theorem aii:fQ 33 9 144 [.d (.i .i64 0),.d (.s []),.d (.s []),.d (.i .i64 0),.d (.i .i64 0),.d (.s []),.bA [],.bA [],.bA []]:=fZ
theorem aij:fQ 34 16 280 [.d (.s []),.bA [],.bA [],.bA [],.d (.i .i64 0),.d (.s []),.bA [],.d (.i .i64 0),.d (.s []),.d (.s []),.d (.i .i64 0),.d (.i .i64 0),.d (.s []),.bA [],.bA [],.bA []]:=fZ
theorem aik:fQ 35 16 280 [.d (.s []),.bA [],.bA [],.bA [],.d (.i .i64 0),.d (.s []),.bA [],.d (.i .i64 0),.d (.s []),.d (.s []),.d (.i .i64 0),.d (.i .i64 0),.d (.s []),.bA [],.bA [],.bA []]:=fZ
theorem ail:fQ 36 1 8 [.d (.o .nilFunc)]:=fZ
theorem ain:fQ 37 1 24 [.bA []]:=fZ
theorem aio:fQ 39 2 40 [.d (.s []),.bA []]:=fZ
theorem aip:fQ 40 1 8 [.d (.o .nilFunc)]:=fZ
theorem aiq:fQ 41 1 8 [.d (.o .nilFunc)]:=fZ
theorem air:fQ 42 1 8 [.d (.o .nilFunc)]:=fZ
theorem ais:fQ 44 1 8 [.d (.o .nilFunc)]:=fZ
theorem ait:fQ 46 1 24 [.bA []]:=fZ
theorem aiu:fQ 48 5 72 [.d (.s []),.bA [],.d (.b false),.d (.b false),.bA []]:=fZ
theorem aiv:fQ 49 1 8 [.d (.o .nilFunc)]:=fZ
theorem aiw:fQ 50 1 8 [.d (.o .nilFunc)]:=fZ
theorem aix:fQ 54 1 24 [.bA []]:=fZ
theorem aiy:fQ 56 12 192 [.d (.s []),.bA [],.d (.i .i64 0),.d (.s []),.bA [],.bA [],.d (.b false),.d (.b false),.d (.i .i64 0),.d (.s []),.bA [],.bA []]:=fZ
theorem aiz:fQ 63 1 8 [.d (.o (.pointer none))]:=fZ
theorem aiA:fQ 64 1 8 [.d (.o .nilFunc)]:=fZ
theorem aiB:fQ 65 1 8 [.d (.o .nilFunc)]:=fZ
theorem aiC:fQ 69 4 64 [.d (.s []),.d (.i .i64 0),.d (.s []),.bA []]:=fZ
theorem aiD:fQ 70 1 8 [.d (.o .nilFunc)]:=fZ
theorem aiE:fQ 71 1 8 [.d (.o .nilFunc)]:=fZ
theorem aiF:fQ 75 1 8 [.d (.o .nilFunc)]:=fZ
theorem aiG:fQ 91 1 8 [.d (.o .nilFunc)]:=fZ
theorem aiH:fQ 92 1 8 [.d (.o .nilFunc)]:=fZ
theorem aiI:fQ 93 1 8 [.d (.o .nilFunc)]:=fZ
theorem aiJ:fQ 95 16 264 [.d (.s []),.bA [],.d (.i .i64 0),.d (.s []),.bA [],.d (.b false),.bA [],.d (.i .i64 0),.d (.s []),.d (.s []),.d (.i .i64 0),.d (.i .i64 0),.d (.s []),.bA [],.bA [],.bA []]:=fZ
theorem agW:fQ 104 11 184 [.d (.s []),.bA [],.d (.i .i64 0),.d (.s []),.d (.s []),.d (.i .i64 0),.d (.i .i64 0),.d (.s []),.bA [],.bA [],.bA []]:=fZ
theorem agX:fQ 105 1 8 [.d (.o .nilFunc)]:=fZ
theorem agY:fQ 112 4 64 [.d (.s []),.d (.i .i64 0),.d (.s []),.bA []]:=fZ
theorem agZ:fQ 119 3 40 [.bA [],.d (.i .i64 0),.d (.i .i64 0)]:=fZ
theorem ag0:fQ 124 11 184 [.d (.s []),.bA [],.d (.i .i64 0),.d (.s []),.d (.s []),.d (.i .i64 0),.d (.i .i64 0),.d (.s []),.bA [],.bA [],.bA []]:=fZ
theorem ag1:fQ 127 1 8 [.d (.o .nilFunc)]:=fZ
theorem ag2:fQ 128 1 8 [.d (.o .nilFunc)]:=fZ
theorem ag3:fQ 129 1 8 [.d (.o .nilFunc)]:=fZ
theorem ag4:fQ 130 1 8 [.d (.o .nilFunc)]:=fZ
theorem ag5:fQ 150 1 8 [.d (.o (.map none))]:=fZ
theorem ag6:fQ 153 1 8 [.d (.o .nilFunc)]:=fZ
theorem ag7:fQ 171 1 8 [.d (.o .nilFunc)]:=fZ
theorem ag8:fQ 176 1 24 [.bA []]:=fZ
theorem ag9:fQ 180 1 8 [.d (.o .nilFunc)]:=fZ
theorem aha:fQ 187 1 16 [.d (.o .nilIface)]:=fZ
theorem ahb:fQ 190 1 8 [.d (.o .nilFunc)]:=fZ
theorem ahc:fQ 193 1 8 [.d (.o .nilFunc)]:=fZ
theorem ahd:fQ 200 1 24 [.bA []]:=fZ
theorem laidOut:laidOutB prog=true:=by kernel_rfl
theorem own:ownKnob prog.godebug=none:=by kernel_rfl
attribute [go_sem] ty1 underlying1 ty2 underlying2 ty3 underlying3 ty4 underlying4 agV ty5 underlying5 ty9 underlying9 ah2 underlying12 ah3 underlying20 ah4 underlying21 ah5 underlying22 ah6 underlying23 ah7 underlying24 ah8 underlying25 ah9 underlying26 aia underlying27 aib underlying29 aic underlying30 aie underlying31 aif underlying32 aii underlying33 aij underlying34 aik underlying35 ail underlying36 ain underlying37 aio underlying39 aip underlying40 aiq underlying41 air underlying42 ais underlying44 ait underlying46 aiu underlying48 aiv underlying49 aiw underlying50 aix underlying54 aiy underlying56 aiz underlying63 aiA underlying64 aiB underlying65 aiC underlying69 aiD underlying70 aiE underlying71 aiF underlying75 aiG underlying91 aiH underlying92 aiI underlying93 aiJ underlying95 agW underlying104 agX underlying105 agY underlying112 agZ underlying119 ag0 underlying124 ag1 underlying127 ag2 underlying128 ag3 underlying129 ag4 underlying130 ag5 underlying150 ag6 underlying153 ag7 underlying171 ag8 underlying176 ag9 underlying180 aha underlying187 ahb underlying190 ahc underlying193 ahd underlying200
end Go.Proofs.YtnceiannponbjaaGreatDoor.Fa
namespace Go.Ab
mutual
def ay.cnt:ay->Nat
 | .mk _ _ _ _ _ a b=>1+(ay.dw a+aM.dw b)
def ay.dw:List ay->Nat
 |[]=>0
 |x::xs=>x.cnt+ay.dw xs
def aM.cnt:aM->Nat
 | .mk _ _ b=>b.cnt
def aM.dw:List aM->Nat
 |[]=>0
 |x::xs=>x.cnt+aM.dw xs
end
theorem ay.mJ(x:ay):x.cnt=1+(ay.dw x.fArgs+aM.dw x.aK):=by cases x;rw[ay.cnt];rfl
theorem aM.mJ(x:aM):x.cnt=x.fBody.cnt:=by cases x;rw[aM.cnt];rfl
theorem ay.kr{xs:List ay}{i:Nat}(hi:i<xs.length):ay.dw (xs.drop i)=xs[i].cnt+ay.dw (xs.drop (i+1)):=by rw[List.drop_eq_getElem_cons hi,ay.dw]
theorem aM.kr{xs:List aM}{i:Nat}(hi:i<xs.length):aM.dw (xs.drop i)=xs[i].fBody.cnt+aM.dw (xs.drop (i+1)):=by rw[List.drop_eq_getElem_cons hi,aM.dw,aM.mJ]
theorem ay.y8(x:ay):x.fArgs.length+bC (x.fArgs.map ay.enc)<=x.sz/\x.aK.length+bC (x.aK.map aM.enc)<=x.sz:=by
 simp only[ay.sz,ay.aB,bN,bR,D.sz,List.length_map];omega
theorem aM.Kz(x:aM):x.fBody.sz<=x.sz:=by
 simp only[aM.sz,aM.aB,ay.sz,bN,bR,D.sz,List.length_map];omega
mutual
theorem ay.kM:∀x:ay,x.cnt<=1+x.sz
 | .mk k t n m ty a b=>by
   have h1:=ay.tO a;have h2:=aM.tO b;rw[ay.cnt];simp only[ay.sz,ay.aB,bN,bR,D.sz,List.length_map,ay.fArgs,ay.aK];omega
theorem ay.tO:∀xs:List ay,ay.dw xs<=xs.length+bC (xs.map ay.enc)
 |[]=>by simp[ay.dw]
 |x::xs=>by
  have h1:=ay.kM x;have h2:=ay.tO xs;rw[ay.dw,List.length_cons,List.map_cons,bC,ay.dQ];omega
theorem aM.kM:∀x:aM,x.cnt<=1+x.sz
 | .mk c v b=>by
   have h1:=ay.kM b;have h2:=aM.Kz (.mk c v b);rw[aM.cnt];simp only[aM.fBody] at h2;omega
theorem aM.tO:∀xs:List aM,aM.dw xs<=xs.length+bC (xs.map aM.enc)
 |[]=>by simp[aM.dw]
 |x::xs=>by
  have h1:=aM.kM x;have h2:=aM.tO xs;rw[aM.dw,List.length_cons,List.map_cons,bC,aM.dQ];omega
end
theorem y9:∀n:Nat,∀x:ay,SizeOf.sizeOf x<n->x.sz<=4194304->aG prog 175 [x.v] (.c (.d (.i .i64 x.cnt)))
 |0=>fun x h=>by omega
 |n+1=>by
  have ih:=y9 n;intro x hn hsz S;have je:=ay.gZ x;have yt:=ay.qC x;have hp:=ay.y8 x;have hc:=ay.kM x;have he:=ay.mJ x;refine zcx [.tmp 2] func175 ntmps175 ?_;simp -implicitDefEqProofs (disch:=omega) only[go_sem]
  refine aZ (ι:=Nat×Nat) zmx rfl [1,3,9,10,11] (fun y=>[.c (.ptr (0,0) 0),.c (.d (.i .i64 y.2)),.c (.d (.sl (x.fArgs.map ay.enc))),.c (.d (.i .i64 x.fArgs.length)),.c (.d (.i .i64 y.1))]) (fun y=>[.box (x.enc.map .d)]::S)
   (fun y=>y.1<=x.fArgs.length/\x.cnt=y.2+ay.dw (x.fArgs.drop y.1)+aM.dw x.aK) (fun y=>x.fArgs.length-y.1) (0,1) rfl ?_ ⟨Nat.zero_le _,by simp only[List.drop_zero];omega⟩ ?_
  ·simp -implicitDefEqProofs (disch:=omega) only[go_sem]
  rintro⟨i,c⟩ ⟨p1,p2⟩;simp only at p1 p2;simp -implicitDefEqProofs (disch:=omega) only[go_sem]
  with_reducible refine aA (fun hb=> ?_) (fun hb=> ?_)<;>have h:=hb<;>(try simp only[wf_preprocess] at h)<;>simp -implicitDefEqProofs (disch:=omega) only[go_sem,hb]<;>(repeat(with_reducible refine And.intro ?_ ?_;focus first|omega|rfl|assumption|exact⟨_,rfl,rfl⟩|(simp;omega)|(simp;done)))
  ·have hi:i<x.fArgs.length:=by omega
   have hx:x.fArgs[i].sz<=bC (x.fArgs.map ay.enc):=fI (List.mem_map_of_mem (List.getElem_mem hi));rw[ay.kr hi] at p2
   (repeat(with_reducible refine And.intro ?_ ?_;focus first|omega|rfl|assumption|exact⟨_,rfl,rfl⟩|(simp;omega)|(simp;done)))
   refine au (ih x.fArgs[i] (by have:=List.sizeOf_lt_of_mem (List.getElem_mem hi);omega) (by omega)) ?_;simp -implicitDefEqProofs (disch:=omega) only[go_sem]<;>(repeat(with_reducible refine And.intro ?_ ?_;focus first|omega|rfl|assumption|exact⟨_,rfl,rfl⟩|(simp;omega)|(simp;done)));rw[show(c:Int)+(x.fArgs[i].cnt:Int)=((c+x.fArgs[i].cnt:Nat):Int) by omega];exact dD 1 (by decide) (i+1,c+x.fArgs[i].cnt) (by simp only;omega) rfl rfl rfl rfl ⟨by simp only;omega,by simp only;omega⟩
  have hi:i=x.fArgs.length:=by omega
  rw[hi,List.drop_length,ay.dw] at p2
  refine aZ (ι:=Nat×Nat) zmx rfl [3,21,22,23] (fun y=>[.c (.d (.i .i64 y.2)),.c (.d (.sl (x.aK.map aM.enc))),.c (.d (.i .i64 x.aK.length)),.c (.d (.i .i64 y.1))]) (fun y=>[.box (x.enc.map .d)]::S)
   (fun y=>y.1<=x.aK.length/\x.cnt=y.2+aM.dw (x.aK.drop y.1)) (fun y=>x.aK.length-y.1) (0,c) rfl ?_ ⟨Nat.zero_le _,by simp only[List.drop_zero];omega⟩ ?_
  ·simp -implicitDefEqProofs (disch:=omega) only[go_sem]
  clear p1 p2 hb h hi i;rintro⟨i,d⟩ ⟨p1,p2⟩;simp only at p1 p2;simp -implicitDefEqProofs (disch:=omega) only[go_sem]
  with_reducible refine aA (fun hb=> ?_) (fun hb=> ?_)<;>have h:=hb<;>(try simp only[wf_preprocess] at h)<;>simp -implicitDefEqProofs (disch:=omega) only[go_sem,hb]<;>(repeat(with_reducible refine And.intro ?_ ?_;focus first|omega|rfl|assumption|exact⟨_,rfl,rfl⟩|(simp;omega)|(simp;done)))
  ·have hi:i<x.aK.length:=by omega
   have hx:x.aK[i].sz<=bC (x.aK.map aM.enc):=fI (List.mem_map_of_mem (List.getElem_mem hi));have hy:=aM.Kz x.aK[i];have hs:=List.sizeOf_lt_of_mem (List.getElem_mem hi);have hs':=aM.oO x.aK[i];rw[aM.kr hi] at p2
   (repeat(with_reducible refine And.intro ?_ ?_;focus first|omega|rfl|assumption|exact⟨_,rfl,rfl⟩|(simp;omega)|(simp;done)))
   refine au (ih x.aK[i].fBody (by omega) (by omega)) ?_;simp -implicitDefEqProofs (disch:=omega) only[go_sem]<;>(repeat(with_reducible refine And.intro ?_ ?_;focus first|omega|rfl|assumption|exact⟨_,rfl,rfl⟩|(simp;omega)|(simp;done)));rw[show(d:Int)+(x.aK[i].fBody.cnt:Int)=((d+x.aK[i].fBody.cnt:Nat):Int) by omega];exact dD 1 (by decide) (i+1,d+x.aK[i].fBody.cnt) (by simp only;omega) rfl rfl rfl rfl ⟨by simp only;omega,by simp only;omega⟩
  ·have hi:i=x.aK.length:=by omega
   rw[hi,List.drop_length,aM.dw] at p2;exact int_eq (by omega)
theorem IU(x:ay)(hsz:x.sz<=4194304):aG prog 175 [x.v] (.c (.d (.i .i64 x.cnt))):=y9 _ x (Nat.lt_succ_self _) hsz
end Go.Ab