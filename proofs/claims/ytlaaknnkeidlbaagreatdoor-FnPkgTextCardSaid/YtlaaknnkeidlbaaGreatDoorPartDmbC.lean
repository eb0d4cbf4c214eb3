/-
  SEVERAL TEXTS IN ONE (merged by program): contracts and models, each with its own heading.
-/
import Derived.Test.YtlaaknnkeidlbaaGreatDoorPartDmbB
import Derived.Carry
import Derived.WideKeyArgs
import Derived.ProofKit
import Derived.OpenShut
import Derived.WalkKit
import Derived.Test.YtlaaknnkeidlbaaGreatDoorChecked
import Derived.Eval
import Derived.KernelRfl
open Go.Proofs Go.Proofs.Tryz
theorem Go.Ab.zmx:Go.Proofs.Tryz.prog.follows .mixedOrders=true:=Go.Proofs.Tryz.checked.mixed
open Go Go.Ab in
theorem Go.Ab.zcx{N:Nat}{S:Store}{f:FuncId}{fn:Func}{c:Code}{args:List V}{post:V->Store->Prop}(rs:List ResultVar)(hf:Tryz.prog.funcs[f]? =some fn)(hN:fn.ntmps=N)(h:CW Tryz.prog N c (Rh Tryz.prog rs post) ⟨mO (args.map (V.up 1)) 0,[]::S⟩)(hb:fn.body=some c:=by exact rfl)(hn:(fn.name== "runtime.NumGoroutine")=false:=by exact rfl)(hr:fn.results.toList=rs:=by exact rfl)(hl:Nat.ble args.length N=true:=by exact rfl)(hok:codeOk N c=true:=by exact rfl):bX Tryz.prog f args S post:=aB (rs:=rs) zmx hf hN hb hn hr hl hok h
set_option linter.unusedSimpArgs false
set_option linter.unusedVariables false
set_option maxRecDepth 4000
namespace Go.Ab
section
variable {P:Program} {S S':Store} {N:Nat} {s:St}
theorem aV{α:Type}{fr:List α}{S:List (List α)}{l j:Nat}:bE (fr::S) (1+l,j)=bE S (l,j):=by rw[Nat.add_comm,cZ]
theorem dW{α:Type}{fr:List α}{S:List (List α)}{l j:Nat}{x:α}:bG (fr::S) (1+l,j) x=fr::bG S (l,j) x:=by rw[Nat.add_comm,bG]
theorem anx{n l j:Nat}:CX n (l,j)=(n+l,j):=rfl
theorem abx{l j:Nat}{es:List (List D)}:C.ret (.bI (1+l,j) es)=some (.bI (l,j) es):=by
 rw[Nat.add_comm];show C.down 1 (.bI (l+1,j) es)=_;simp[C.down]
theorem ret_tsl_0{j:Nat}{es:List (List D)}:C.ret (.bI (0,j) es)=some (.d (.sl es)):=rfl
theorem apr{x:D}:C.ret (.d x)=some (.d x):=rfl
theorem ak8:C.ret .any=some .any:=rfl
theorem ak9{es:List (List D)}:C.ret (.bF es)=some (.bF es):=rfl
theorem ala{n:Nat}{es:List (List D)}:C.ret (.lG n es)=some (.lG n es):=rfl
theorem ahP{cs:List D}:C.ret (.nG cs)=some (.nG cs):=rfl
theorem alb{l j off:Nat}:C.ret (.ptr (1+l,j) off)=some (.ptr (l,j) off):=by
 rw[Nat.add_comm];show C.down 1 (.ptr (l+1,j) off)=_;simp[C.down]
theorem alc{j:Nat}{es es':List (List D)}{k:Key}:C.oJ j es (.bI k es')=.bI k es':=rfl
theorem aps{x:D}:C.uf (.d x)=.d x:=rfl
theorem ald:C.uf .any=.any:=rfl
theorem ale{k:Key}{off:Nat}:C.uf (.ptr k off)=.ptr k off:=rfl
theorem anz{f:Nat}{caps:List (Key×Nat)}:C.uf (.fn f caps)=.fn f caps:=rfl
theorem alf{k:Key}:C.uf (.jQ k)=.jQ k:=rfl
theorem ahQ{cs:List D}:C.uf (.nG cs)=.nG cs:=rfl
theorem apt{j:Nat}{es:List (List D)}{x:D}:C.oJ j es (.d x)=.d x:=rfl
theorem alg{j:Nat}{es:List (List D)}:C.oJ j es .any=.any:=rfl
theorem alh{j:Nat}{es es':List (List D)}:C.oJ j es (.bF es')=.bF es':=rfl
theorem ali{j:Nat}{es:List (List D)}{k:Key}{off:Nat}:C.oJ j es (.ptr k off)=.ptr k off:=rfl
theorem anA{j:Nat}{es:List (List D)}{f:Nat}{caps:List (Key×Nat)}:C.oJ j es (.fn f caps)=.fn f caps:=rfl
theorem alj{j n:Nat}{es es':List (List D)}:C.oJ j es (.lG n es')=.lG n es':=rfl
theorem alk{n:Nat}{es:List (List D)}:C.uf (.lG n es)=.lG n es:=rfl
theorem ahR{j:Nat}{es:List (List D)}{cs:List D}:C.oJ j es (.nG cs)=.nG cs:=rfl
theorem alm{j i:Nat}{es:List (List D)}:C.oJ j es (.jQ (0,i))=if i=j then .d (.sl es) else .jQ (0,i):=rfl
theorem bX.ahS{f:FuncId}(i:Nat){es:List (List D)}{bg:Nat}{args:List V}{post post':V->Store->Prop}(hi:args[i]? =some (.c (.bF es)))(hes:∀e∈es,e.length=bg)
 (h:bX P f ((args.map (V.up 1)).set i (.c (.bI (0,0) es))) ([.tok bg es]::S) post)
 (hp:∀r fr S',post r (fr::S')->∃r',r.ret=some r'/\post' r' S'):bX P f args S post':=by
 refine⟨h.1,fun w σ β vs hS hargs=> ?_⟩;obtain⟨v,hv0,⟨hd,ad,n,hval⟩,hone⟩:=hargs.2 i _ hi
 ·have hn:n=es.length:=by rw[hval] at hd;cases hd<;>rfl
  have hg:Grow w σ w σ:=Grow.refl hS.live
  obtain⟨hS',hk,hst⟩:=hS.up1.push (o:=.tok bg es) (h:=v) hg rfl ⟨hd,hes,ad,n,by rw[hval,hn],by omega,.inl hn⟩ (fun b hb=>by
   rw[hval,hn] at hb
   cases ad<;>simp[owns,blk] at hb)
  have hargs':oM w σ ([.tok bg es]::S) ([v]::β) ((args.map (V.up 1)).set i (.c (.bI (0,0) es))) vs:=by
   refine⟨by have:=hargs.1;simpa using this,fun j x hx=> ?_⟩;rw[List.getElem?_set] at hx;by_cases e:i=j
   ·subst e;rw[if_pos rfl] at hx;split at hx
    ·cases hx;refine⟨v,hv0,⟨hd,.tok bg es,rfl,fun a b e=> ?_⟩,hone⟩;obtain⟨_,rfl⟩:=lT (lab:=none) e;exact⟨Nat.le_refl _,fun _=>rfl⟩
    ·cases hx
   ·rw[if_neg e,List.getElem?_map] at hx
    cases ha:args[j]? with
    |none=>rw[ha] at hx;cases hx
    |some y=>
     rw[ha] at hx;cases hx;obtain⟨u,hu,hr⟩:=hargs.2 j y ha;exact⟨u,hu,Lp (S:=[.tok bg es]::S) (β:=[v]::β) 1 hr⟩
  refine(h.2 w σ ([v]::β) vs hS' hargs').mono fun e w' ⟨v',r,S1,σ',β',he,hS1,hk1,Ic,hr1,hpost⟩=> ?_
  have hO:∀b,Own ([.tok bg es]::S) ([v]::β) b->Own S β b:=by
   rintro b ⟨⟨l,j⟩,o,hv,h1,h2,h3⟩
   cases l with
   |zero=>
    rw[bK] at h1 h2
    cases j with
    |zero=>
     cases h1;cases h2;rw[hval,hn] at h3;cases ad<;>simp[owns,blk] at h3
    |succ j=>simp at h1
   |succ l=>rw[cZ] at h1 h2;exact⟨(l,j),o,hv,h1,h2,h3⟩
  cases S1 with
  |nil=>
   obtain⟨o',h1,_⟩:=hk1 (0,0) _ rfl;rw[uR] at h1;cases h1
  |cons fr S1=>
   cases β' with
   |nil=>have:=hS1.shape.1;simp at this
   |cons bo bΩ=>
    obtain⟨r',hr',hp'⟩:=hp r fr S1 hpost;refine⟨v',r',S1,σ',bΩ,he,hS1.Lr,hk1.drop 1,⟨Ic.size,Ic.os,Ic.output,fun b hb ho=>Ic.far b hb (fun x=>ho (hO b x)),Ic.near,fun b hb=>(Ic.own b (y8 hb)).imp (hO b) id⟩,Vx hr' hr1,hp'⟩
end
attribute [go_sem] aV dW anx abx ret_tsl_0 apr ak8 ak9 ahP alb alc aps ald ale anz alf ahQ apt alg alh ali anA ahR alm ala alj alk
section
variable {P:Program} {S S':Store} {N:Nat} {s:St}
theorem J2(S:Store)(β:Hs)(k:Key):Keep S β (bG S k .dead) β:=by
 intro k' o ho;by_cases e:k=k'
 ·subst e;exact⟨.dead,dL _ _ _ _ ho,.inl rfl⟩
 ·exact⟨o,by rw[fH _ _ _ _ e];exact ho,nC.refl _ _⟩
theorem BS{k k':Key}{o:Obj}(h:bE (bG S k .dead) k'=some o):(k=k'/\o=.dead)\/bE S k'=some o:=by
 by_cases e:k=k'
 ·subst e
  cases hg:bE S k with
  |none=>
   have:∀(S:Store)(k:Key),bE S k=none->bG S k .dead=S:=by
    intro S
    induction S with
    |nil=>intro k _;rfl
    |cons fr S ih=>
     rintro⟨l,j⟩ h
     cases l with
     |zero=>
      rw[bK] at h;rw[bG,List.set_eq_of_length_le (List.getElem?_eq_none_iff.1 h)]
     |succ l=>rw[cZ] at h;rw[bG,ih _ h]
   rw[this S k hg,hg] at h;cases h
  |some y=>
   rw[dL _ _ _ _ hg] at h;cases h;exact .inl ⟨rfl,rfl⟩
 ·rw[fH _ _ _ _ e] at h;exact .inr h
theorem V8(x:Obj):∀(S:Store)(k:Key),(bG S k x).length=S.length
 |[],k=>rfl
 |fr::S,(0,j)=>by rw[bG];simp
 |fr::S,(l+1,j)=>by rw[bG,List.length_cons,V8 x S,List.length_cons]
theorem ZM(x:Obj):∀(S:Store)(k:Key)(l:Nat)(fr:List Obj),(bG S k x)[l]? =some fr->∃Fh,S[l]? =some Fh/\Fh.length=fr.length
 |[],k,l,fr,h=>by simp[bG] at h
 |f::S,(0,j),0,fr,h=>by rw[bG] at h;simp at h;subst h;exact⟨f,rfl,by simp⟩
 |f::S,(0,j),l+1,fr,h=>by rw[bG] at h;exact⟨fr,by simpa using h,rfl⟩
 |f::S,(i+1,j),0,fr,h=>by rw[bG] at h;exact⟨fr,by simpa using h,rfl⟩
 |f::S,(i+1,j),l+1,fr,h=>by
  rw[bG] at h;simpa using ZM x S (i,j) l fr (by simpa using h)
theorem ahT{w:World}{σ:Nat->Nat}{β:Hs}(k:Key)(hS:fA w σ S β):fA w σ (bG S k .dead) β:=by
 have hn:eu w σ w σ:=(Grow.refl hS.live).near;refine⟨fun k' o ho=> ?_,fun k1 k2 o1 o2 h1 h2 b e1 e2 e3 e4 e5 e6=> ?_,⟨by rw[V8];exact hS.shape.1,fun l fr hl=> ?_⟩,hS.live,hS.wh⟩
 ·rcases BS ho with⟨rfl,rfl⟩|ho'
  ·cases hg:bE S k with
   |none=>
    exfalso;have:=J2 S β k;rcases BS (S:=S) (k:=k) (k':=k) ho with⟨_,_⟩|h
    ·
     have hne:bE (bG S k .dead) k=none:=by
      have:∀(S:Store)(k:Key),bE S k=none->bE (bG S k Obj.dead) k=none:=by
       intro S
       induction S with
       |nil=>intro k _;rw[bG,uR]
       |cons fr S ih=>
        rintro⟨l,j⟩ h
        cases l with
        |zero=>
         rw[bK] at h;rw[bG,bK,List.set_eq_of_length_le (List.getElem?_eq_none_iff.1 h)];exact h
        |succ l=>rw[cZ] at h;rw[bG,cZ];exact ih _ h
      exact this S k hg
     rw[hne] at ho;cases ho
    ·rw[hg] at h;cases h
   |some y=>
    obtain⟨h,hh,_⟩:=hS.obj k y hg;exact⟨h,hh,trivial⟩
  ·obtain⟨h,hh,hr⟩:=hS.obj k' o ho';exact⟨h,hh,hr.mono hn ((J2 S β k).drop k'.1) fun b _=>⟨rfl,rfl⟩⟩
 ·rcases BS e1 with⟨_,rfl⟩|Ml
  ·cases e3
  ·rcases BS e4 with⟨_,rfl⟩|e4'
   ·cases e6
   ·exact hS.apart k1 k2 o1 o2 h1 h2 b Ml e2 e3 e4' e5 e6
 ·obtain⟨Fh,h1,h2⟩:=ZM _ S k l fr hl;obtain⟨gr,h3,h4⟩:=hS.shape.2 l Fh h1;exact⟨gr,h3,by omega⟩
def Less(r r':V):Prop:=∀w σ S β v,dM w σ S β r v->dM w σ S β r' v
theorem Less.refl(r:V):Less r r:=fun _ _ _ _ _ h=>h
theorem bX.kill{f:FuncId}{args:List V}{post post':V->Store->Prop}(k:Key)(h:bX P f args S post)(hp:∀r S',post r S'->∃r',Less r r'/\(post' r' S'\/post' r' (bG S' k .dead))):bX P f args S post':=by
 refine⟨h.1,fun w σ β vs hS hv=>(h.2 w σ β vs hS hv).mono fun e w' ⟨v,r,S',σ',β',h1,h2,h3,h4,h5,h6⟩=> ?_⟩;obtain⟨r',hl,hp|hp⟩:=hp r S' h6
 ·exact⟨v,r',S',σ',β',h1,h2,h3,h4,hl _ _ _ _ _ h5,hp⟩
 ·have hkeep:=J2 S' β' k;refine⟨v,r',bG S' k .dead,σ',β',h1,ahT k h2,h3.trans hkeep,⟨h4.size,h4.os,h4.output,h4.far,h4.near,fun b hb=> ?_⟩,hl _ _ _ _ _ (h5.mono (Grow.refl h2.live).near hkeep),hp⟩;obtain⟨k',o,hv,e1,e2,e3⟩:=hb;rcases BS e1 with⟨_,rfl⟩|Ml
  ·cases e3
  ·exact h4.own b ⟨k',o,hv,Ml,e2,e3⟩
theorem dJ{x y:Obj}:∀(S:Store)(k:Key),bG (bG S k x) k y=bG S k y
 |[],k=>rfl
 |fr::S,(0,j)=>by rw[bG,bG,bG];simp
 |fr::S,(l+1,j)=>by rw[bG,bG,bG,dJ S]
theorem Fu{x:Obj}:∀(S:Store)(k:Key),bE S k=some x->bG S k x=S
 |[],k,_=>rfl
 |fr::S,(0,j),h=>by
  rw[bK] at h;rw[bG];congr 1
  exact List.ext_getElem? fun i=>by
   rw[List.getElem?_set];split
   ·rename_i e;subst e;obtain⟨h1,h2⟩:=List.getElem?_eq_some_iff.1 h;simp[h1,h2]
   ·rfl
 |fr::S,(l+1,j),h=>by rw[cZ] at h;rw[bG,Fu S _ h]
def xX:List Bool->List V->List V
 |true::m,v::vs=>v::xX m vs
 |false::m,v::vs=>v.uf::xX m vs
 |[],vs=>vs.map V.uf
 |_,[]=>[]
theorem M9:∀(m:List Bool)(vs:List V),vs.length=(xX m vs).length
 |true::m,v::vs=>by rw[xX,List.length_cons,List.length_cons,M9 m vs]
 |false::m,v::vs=>by rw[xX,List.length_cons,List.length_cons,M9 m vs]
 |[],vs=>by simp[xX]
 |true::m,[]=>rfl
 |false::m,[]=>rfl
theorem Ri:∀(m:List Bool)(vs:List V)(j:Nat)(x y:V),vs[j]? =some x->(xX m vs)[j]? =some y->y=x\/y=x.uf
 |true::m,v::vs,0,x,y,h1,h2=>by rw[xX] at h2;cases h1;cases h2;exact .inl rfl
 |false::m,v::vs,0,x,y,h1,h2=>by rw[xX] at h2;cases h1;cases h2;exact .inr rfl
 |true::m,v::vs,j+1,x,y,h1,h2=>by rw[xX] at h2;exact Ri m vs j x y h1 h2
 |false::m,v::vs,j+1,x,y,h1,h2=>by rw[xX] at h2;exact Ri m vs j x y h1 h2
 |[],vs,j,x,y,h1,h2=>by rw[xX,List.getElem?_map,h1] at h2;cases h2;exact .inr rfl
 |true::m,[],j,x,y,h1,h2=>by simp at h1
 |false::m,[],j,x,y,h1,h2=>by simp at h1
theorem bX.xX(m:List Bool){f:FuncId}{args:List V}{post:V->Store->Prop}(h:bX P f (Go.Ab.xX m args) S post):bX P f args S post:=
 h.weaken (M9 m args) fun j x y hx hy w σ β v hr=>by
  rcases Ri m args j x y hx hy with e|e
  ·rw[e];exact hr
  ·rw[e];exact VI hr
theorem cK(m:List Bool){dr:Option Nat}{f:FuncId}{args:List V}{dst:Option Nat}{K:St->Prop}{r:V}{S1:Store}(hm:aj7 dr=true)(h:bX P f (xX m args) s.st (fun r' S'=>r'=r/\S'=S1))(hK:K (St.put ⟨s.tm,S1⟩ dst r)):fB P dr f args s dst K:=
 aW hm (h.xX m) hK
end
theorem aF.less{P:Program}{f:FuncId}{args:List V}{r r':V}(h:aF P f args r)(hl:Less r r'):aF P f args r':=
 fun S=>(h S).kill (0,0) fun r1 S' e=>⟨r',by rw[e.1];exact hl,.inl ⟨rfl,e.2⟩⟩
section
variable {P:Program} {S:Store}
def jL(n:Nat)(caps:List (Key×Nat)):List (Key×Nat):=caps.map fun y=>(CX n y.1,y.2)
theorem aby{n:Nat}:jL n []=[]:=rfl
theorem YF{n l j off:Nat}{caps:List (Key×Nat)}:jL n (((l,j),off)::caps)=((n+l,j),off)::jL n caps:=rfl
theorem Sw{m n:Nat}{caps:List (Key×Nat)}:jL m (jL n caps)=jL (m+n) caps:=by
 unfold jL;rw[List.map_map];refine List.map_congr_left fun y _=> ?_;simp only[Function.comp,CX,Prod.mk.injEq,and_true];omega
theorem YG{n m g:Nat}{caps:List (Key×Nat)}:C.refs n (.fn g (jL (m+1) caps))=true:=by
 simp only[C.refs,jL,List.all_map,List.all_eq_true];intro x _
 have h:0<m+1+x.1.1:=by omega
 simp[Function.comp,jY,CX,h]
theorem V9{n:Nat}{caps:List (Key×Nat)}:((jL 1 caps).all fun x=>jY n x.fst)=true:=YG (m:=0) (g:=0)
theorem Wd:∀(F S:Store)(l j:Nat),bE (F++S) (F.length+l,j)=bE S (l,j)
 |[],S,l,j=>by simp
 |fr::F,S,l,j=>by
  rw[List.cons_append,List.length_cons,show F.length+1+l=(F.length+l)+1 from by omega,cZ,Wd F S l j]
theorem Wh(x:Obj):∀(F S:Store)(l j:Nat),bG (F++S) (F.length+l,j) x=F++bG S (l,j) x
 |[],S,l,j=>by simp
 |fr::F,S,l,j=>by
  rw[List.cons_append,List.length_cons,show F.length+1+l=(F.length+l)+1 from by omega,bG,Wh x F S l j,List.cons_append]
theorem aeG{F S:Store}{j:Nat}:bE (F++S) (F.length,j)=bE S (0,j):=Wd F S 0 j
theorem aeH{F S:Store}{j:Nat}{x:Obj}:bG (F++S) (F.length,j) x=F++bG S (0,j) x:=Wh x F S 0 j
attribute [go_sem] aeG aeH aby YF
def oO(P:Program)(g:Nat)(caps:List (Key×Nat))(S:Store)(xs:List V)(r:V):Prop:=
 ∀F:Store,bX P g (xs++En (jL F.length caps)) (F++S) (fun r' S'=>r'=r/\S'=F++S)
theorem oO.push{g:Nat}{caps:List (Key×Nat)}{xs:List V}{r:V}(h:oO P g caps S xs r)(fr:List Obj):oO P g (jL 1 caps) (fr::S) xs r:=fun F=>by
 have:=h (F++[fr]);rw[Sw];simpa using this
theorem oO.Rj{g:Nat}{xs:List V}{r:V}(h:aF P g xs r):oO P g [] S xs r:=fun F=>by
 have:=h (F++S);simpa [jL,En] using this
def Iq(P:Program)(g:Nat)(caps:List (Key×Nat)){α X:Type}(st:α->Store)(I:Nat->α->Prop)(f:α->X->α)(xv:X->V)(ok:X->Prop):Prop:=
 ∀n a u,I (n+1) a->ok u->I n (f a u)/\∀F:Store,bX P g (xv u::En (jL F.length caps)) (F++st a) (fun r' S'=>r'=.fF []/\S'=F++st (f a u))
theorem Iq.push{g:Nat}{caps:List (Key×Nat)}{α X:Type}{st:α->Store}{I:Nat->α->Prop}{f:α->X->α}{xv:X->V}{ok:X->Prop}(h:Iq P g caps st I f xv ok)(fr:List Obj):
 Iq P g (jL 1 caps) (fun a=>fr::st a) I f xv ok:=fun n a u ha hu=>⟨(h n a u ha hu).1,fun F=>by
 have:=(h n a u ha hu).2 (F++[fr]);rw[Sw]
 simpa using this⟩
theorem sJ{N:Nat}{c:Code}{Q:Exit->St->Prop}{tm:List (Nat×V)}{own:List Obj}{Ω:Store}(j i bg:Nat)(es:List (List D))(cs:List C)(hj:own[j]? =some (.box cs))(hi:cs[i]? =some (.bF es))(hes:∀e∈es,e.length=bg)
 (h:AW P N c Q ⟨tm,(own.set j (.box (cs.set i (.bI (0,own.length) es)))++[.tok bg es])::Ω⟩):AW P N c Q ⟨tm,own::Ω⟩:=by
 refine lU h fun a w σ β hR=> ?_;obtain⟨bo,bΩ,rfl,hlen⟩:=frames hR;have hjl:=(List.getElem?_eq_some_iff.1 hj).1
 have hg0:bE (own::Ω) (0,j)=some (.box cs):=by rw[bK];exact hj
 obtain⟨hb,Mk,hr⟩:=hR.S.obj (0,j) _ hg0;obtain⟨b,cv,ty,rfl,hbc,hσ,hcs⟩:=hr;have hcs:gu w σ (own::Ω) (bo::bΩ) cs cv.toList:=hcs;obtain⟨v,hv,⟨hd,ad,n,hval⟩,hone⟩:=hcs.2 i _ hi
 have hn:n=es.length:=by rw[hval] at hd;cases hd<;>rfl
 have hg:Grow w σ w σ:=Grow.refl hR.S.live
 obtain⟨hS',hk,hst⟩:=hR.S.push (o:=.tok bg es) (h:=v) hg hlen ⟨hd,hes,ad,n,by rw[hval,hn],by omega,.inl hn⟩ (fun b hb=>by
  rw[hval,hn] at hb
  cases ad<;>simp[owns,blk] at hb)
 have hk1:bE ((own++[.tok bg es])::Ω) (0,j)=some (.box cs):=kD _ _ _ _ _ hg0;have Jm:bE ((bo++[v])::bΩ) (0,j)=some (.pointer (some ⟨b,0,none⟩)):=kD _ _ _ _ _ Mk;have hko:nC (.box cs) (some (Value.pointer (some ⟨b,0,none⟩))) (.box (cs.set i (.bI (0,own.length) es))) (some (Value.pointer (some ⟨b,0,none⟩))):=.inr ⟨⟨_,rfl⟩,rfl⟩
 have hK:Keep ((own++[.tok bg es])::Ω) ((bo++[v])::bΩ) (bG ((own++[.tok bg es])::Ω) (0,j) (.box (cs.set i (.bI (0,own.length) es)))) (bG ((bo++[v])::bΩ) (0,j) (.pointer (some ⟨b,0,none⟩))):=by
  intro k1 o1 e1;by_cases e:k1=(0,j)
  ·subst e;rw[hk1] at e1;cases e1;exact⟨_,dL _ _ _ _ hk1,by rw[Jm,dL _ _ _ _ Jm];exact hko⟩
  ·exact⟨o1,(fH _ _ _ _ (Ne.symm e)).trans e1,by rw[fH _ _ _ _ (Ne.symm e)];exact .refl _ _⟩
 have hne:(0,own.length)≠(0,j):=fun e=>by injection e with _ e;omega
 obtain⟨hS2,hk2,xW⟩:=hS'.set (w':=w) (σ':=σ) (o':=.box (cs.set i (.bI (0,own.length) es))) (h':=.pointer (some ⟨b,0,none⟩)) hk1 Jm (Nat.le_refl _) rfl rfl (eu.refl _ _) hS'.live (fun _ _ _=>⟨rfl,rfl⟩) hko
  ⟨b,cv,ty,rfl,hbc,hσ,by
    refine⟨by rw[List.length_set];exact hcs.1,fun m x hm=> ?_⟩;rw[List.getElem?_set] at hm;by_cases e:i=m
    ·subst e;rw[if_pos rfl] at hm;split at hm
     ·cases hm;refine⟨v,hv,⟨hd,.tok bg es,?_,fun a1 b1 e1=> ?_⟩,hone⟩
      ·show bE (bG _ (0,j) _) (0,own.length)=_;rw[fH _ _ _ _ (Ne.symm hne),cu]
      ·obtain⟨_,rfl⟩:=lT (lab:=none) e1;refine⟨Nat.le_refl _,fun _=> ?_⟩;show bE (bG _ (0,j) _) (0,own.length)=_;rw[fH _ _ _ _ (Ne.symm hne),<-hlen,cu]
     ·cases hm
    ·rw[if_neg e] at hm;obtain⟨u,hu,hc,ho⟩:=hcs.2 m x hm
     exact⟨u,hu,(hc.mono (eu.refl _ _) hk).mono (eu.refl _ _) hK,ho⟩⟩ (fun _ e=>.inl e)
 have est:bG ((own++[.tok bg es])::Ω) (0,j) (.box (cs.set i (.bI (0,own.length) es)))=(own.set j (.box (cs.set i (.bI (0,own.length) es)))++[.tok bg es])::Ω:=by
  rw[bG,List.set_append_left _ _ hjl]
 rw[est] at hS2 hk2 xW
 exact⟨σ,_,⟨hR.size,hR.defers,hS2,fun u=>((hR.T u).mono (eu.refl _ _) hk).mono (eu.refl _ _) hk2⟩,hst.trans xW,by
  have:=hk.trans hk2
  exact this.tail⟩
end
inductive D.Fit:D->Prop
 |b (x):Fit (.b x)
 |i (k n):Fit (.i k n)
 |s (l) (h:l.length<=9223372036854775807):Fit (.s l)
 |sl (es) (h:es.length<=9223372036854775807) (hh:∀e∈es,∀d∈e,Fit d):Fit (.sl es)
 |o (v):Fit (.o v)
def Ep(cs:List D):Prop:=∀d∈cs,d.Fit
theorem Er:Ep []:=fun d h=>by cases h
theorem Fv{d:D}{ds:List D}:Ep (d::ds)<->d.Fit/\Ep ds:=by simp[Ep]
theorem YH{a b:List D}:Ep (a++b)<->Ep a/\Ep b:=by
 simp only[Ep,List.mem_append];exact⟨fun h=>⟨fun d hd=>h d (.inl hd),fun d hd=>h d (.inr hd)⟩,fun h d hd=>hd.elim (h.1 d) (h.2 d)⟩
def WTF(P:Program)(W:TypeId->List D->Prop):List Field->List D->Prop
 |[],ds=>ds=[]
 |f::fs,ds=>∃a b,ds=a++b/\a.length=P.cellsOf f.type/\W f.type a/\WTF P W fs b
def WT(P:Program):Nat->TypeId->List D->Prop
 |0,_,_=>False
 |n+1,t,ds=>
  match P.underlying t with
  |some .bool=>∃b,ds=[.b b]
  |some (.int k)=>∃x,ds=[.i k x]/\(Lit.int k x).wf=true
  |some .string=>∃l,ds=[.s l]/\l.length<=9223372036854775807
  |some (.slice e)=>∃es,ds=[.sl es]/\es.length<=9223372036854775807/\∀x∈es,x.length=P.cellsOf e/\WT P n e x
  |some (.struct fs)=>WTF P (WT P n) fs.toList ds
  |_=>False
def Du(P:Program):List Field->Nat->Nat->Bool
 |[],a,b=>a==b
 |f::fs,a,b=>f.offset==a&&Du P fs (a+P.cellsOf f.type) b
def Rk(P:Program)(L:List TypeId):Bool:=
 L.all fun t=>match P.underlying t with
  |some .bool|some (.int _)|some .string=>P.cellsOf t==1
  |some (.slice e)=>P.cellsOf t==1&&L.contains e&&decide (0<P.cellsOf e)
  |some (.struct fs)=>Du P fs.toList 0 (P.cellsOf t)&&fs.toList.all fun f=>L.contains f.type
  |_=>false
def kS(w:World)(b:Nat):Nat:=match w.heap[b]? with
 |some (.cells c _ _)=>c.size
 |_=>0
def uW(w:World)(ds:List D)(vs:List Value):Prop:=ds.length=vs.length/\∀(j:Nat)(d:D),ds[j]? =some d->∃v,vs[j]? =some v/\dK w (kS w) d v/\v.oneCell'=true
theorem uW.append{w:World}{a b:List D}{xs ys:List Value}(h1:uW w a xs)(h2:uW w b ys):uW w (a++b) (xs++ys):=by
 refine⟨by simp[h1.1,h2.1],fun j d hj=> ?_⟩;rw[List.getElem?_append] at hj ⊢;have:=h1.1;split at hj
 ·rw[if_pos (by omega)];exact h1.2 j d hj
 ·rw[if_neg (by omega),<-h1.1];exact h2.2 _ d hj
theorem uW.one{w:World}{d:D}{v:Value}(h:dK w (kS w) d v)(h1:v.oneCell'=true):uW w [d] [v]:=by
 refine⟨rfl,fun j x hj=> ?_⟩
 cases j with
 |zero=>cases hj;exact⟨v,rfl,h,h1⟩
 |succ j=>simp at hj
theorem Wi{α β:Type}(f:α->Option β):∀(l:List α)(ys:List β),l.mapM f=some ys->ys.length=l.length/\∀(j:Nat)(x:α),l[j]? =some x->∃y,f x=some y/\ys[j]? =some y
 |[],ys,h=>by
  simp at h;subst h;exact⟨rfl,fun j x hj=>by simp at hj⟩
 |a::l,ys,h=>by
  rw[List.mapM_cons] at h
  cases ha:f a with
  |none=>rw[ha] at h;cases h
  |some y=>
   cases hl:l.mapM f with
   |none=>rw[ha,hl] at h;cases h
   |some zs=>
    rw[ha,hl] at h;cases h;obtain⟨h1,h2⟩:=Wi f l zs hl;refine⟨by simp[h1],fun j x hj=> ?_⟩
    cases j with
    |zero=>cases hj;exact⟨y,ha,rfl⟩
    |succ j=>exact h2 j x hj
section
variable {H:Type} {enc:TypeId×Value->H} {P:Program} {w:World} {L:List TypeId}
theorem Ir{a:Addr}{n:Nat}{vs:List Value}(hn:0<n)(h:w.cells? 0 a n=some vs):a.spot=none/\vs.length=n/\∃c t fz,w.heap[a.block]? =some (.cells c t fz)/\∀j,j<n->∃v,vs[j]? =some v/\c[a.off+j]? =some v:=by
 unfold World.cells? at h;rw[if_pos (Nat.zero_le _)] at h;obtain⟨h1,h2⟩:=Wi _ _ _ h;rw[List.length_range] at h1;obtain⟨v0,hv0,_⟩:=h2 0 0 (by simp[hn])
 have UG:a.add 0=a:=by simp[Addr.add]
 rw[UG] at hv0;unfold World.cell? at hv0
 cases hb:w.heap[a.block]? with
 |none=>rw[hb] at hv0;cases hv0
 |some ob=>
  rw[hb] at hv0
  cases ob with
  |map _ _=>cases hv0
  |cells c t fz=>
   have hs:a.spot=none:=by
    cases hsp:a.spot with
    |none=>rfl
    |some x=>rw[hsp] at hv0;simp at hv0
   refine⟨hs,h1,c,t,fz,rfl,fun j hj=> ?_⟩;obtain⟨v,hv,hvs⟩:=h2 j j (by simp[hj]);refine⟨v,hvs,?_⟩;unfold World.cell? at hv;by_cases hj0:j=0
   ·subst hj0;rw[UG,hb] at hv;simp[hs] at hv;simpa using hv
   ·simp[Addr.add,hj0,hb] at hv;exact hv
  |_=>cases hv0
theorem Mv{α:Type}{p:Nat->α->Prop}:∀n:Nat,(∀i,i<n->∃x,p i x)->∃l:List α,l.length=n/\∀(i:Nat)(x:α),l[i]? =some x->p i x
 |0,_=>⟨[],rfl,fun i x h=>by simp at h⟩
 |n+1,h=>by
  obtain⟨l,hl,hp⟩:=Mv n fun i hi=>h i (by omega);obtain⟨x,hx⟩:=h n (by omega);refine⟨l++[x],by simp[hl],fun i y hy=> ?_⟩;rw[List.getElem?_append] at hy;split at hy
  ·exact hp i y hy
  ·rename_i hlt
   have hi:i-l.length<1:=by
    have:=(List.getElem?_eq_some_iff.1 hy).1;simpa using this
   have:i=n:=by omega
   subst this;rw[show i-l.length=0 from by omega] at hy;cases hy;exact hx
theorem aeI(hc:Rk P L=true){t:TypeId}(ht:t∈L):(match P.underlying t with
 |some .bool|some (.int _)|some .string=>P.cellsOf t==1
 |some (.slice e)=>P.cellsOf t==1&&L.contains e&&decide (0<P.cellsOf e)
 |some (.struct fs)=>Du P fs.toList 0 (P.cellsOf t)&&fs.toList.all fun f=>L.contains f.type
 |_=>false)=true:=List.all_eq_true.1 hc t ht
theorem YI{n:Nat}{fs:List Field}{cs:List Value}:∀(off:Nat),off<=cs.length->Du P fs off cs.length=true->
 (∀f∈fs,∃ds,WT P n f.type ds/\uW w ds ((cs.drop f.offset).take (P.cellsOf f.type)))->∃ds,WTF P (WT P n) fs ds/\uW w ds (cs.drop off):=by
 induction fs with
 |nil=>
  intro off _ ht _
  have:off=cs.length:=by simpa [Du] using ht
  exact⟨[],rfl,by simp[this,uW]⟩
 |cons f fs ih=>
  intro off ho ht h;simp only[Du,Bool.and_eq_true,beq_iff_eq] at ht;obtain⟨a,ha1,ha2⟩:=h f (by simp)
  have hle:∀(fs:List Field)(o:Nat),Du P fs o cs.length=true->o<=cs.length:=by
   intro fs
   induction fs with
   |nil=>intro o h;have:o=cs.length:=by simpa [Du] using h
         omega
   |cons g gs ih=>intro o h;simp only[Du,Bool.and_eq_true] at h;have:=ih _ h.2;omega
  have hle':=hle fs _ ht.2;obtain⟨b,hb1,hb2⟩:=ih (off+P.cellsOf f.type) hle' ht.2 fun g hg=>h g (by simp[hg]);rw[ht.1] at ha2;refine⟨a++b,⟨a,b,rfl,?_,ha1,hb1⟩,?_⟩
  ·rw[ha2.1];simp;omega
  ·have:=ha2.append hb2;rw[<-List.drop_drop,List.take_append_drop] at this;exact this
theorem J3(hc:Rk P L=true){sp:Nat->Bool}{held:Bool}:∀(fuel:Nat)(t:TypeId)(cs:List Value)(x:DataW H×List MemPlace),t∈L->
 DataW.trod enc P w 0 sp held fuel t cs=some x->∃ds,WT P fuel t ds/\uW w ds cs
 |0,t,cs,x,_,h=>by simp[DataW.trod] at h
 |n+1,t,cs,x,ht,h=>by
  have hcl:=aeI hc ht
  cases hu:P.underlying t with
  |none=>rw[hu] at hcl;cases hcl
  |some u=>
   rw[hu] at hcl
   cases u with
   |bool=>
    obtain⟨b,rfl,_⟩:=DataW.trod_bool hu h;exact⟨[.b b],by simp only[WT,hu];exact⟨b,rfl⟩,uW.one (.b b) rfl⟩
   |int k=>
    obtain⟨m,rfl,_,hw⟩:=DataW.trod_int hu h;exact⟨[.i k m],by simp only[WT,hu];exact⟨m,rfl,hw⟩,uW.one (.i k m) rfl⟩
   |string=>
    obtain⟨s,rfl,_,hs⟩:=DataW.trod_string hu h
    have hl:s.data.toList.length<=9223372036854775807:=by
     have h1:s.data.toList.length=s.size:=by rw[Array.length_toList];rfl
     rw[h1];exact hs
    refine⟨[.s s.data.toList],?_,uW.one ?_ rfl⟩
    ·simp only[WT,hu];exact⟨_,rfl,hl⟩
    ·exact .s s.data.toList
   |slice e=>
    simp only[Bool.and_eq_true,beq_iff_eq,decide_eq_true_eq,List.contains_iff_mem] at hcl;obtain⟨⟨h1,he⟩,hpos⟩:=hcl;rcases DataW.trod_slice hu h with⟨rfl,_⟩|⟨a,len,cap,elems,rest,m,hm,rfl,_,_,hlc,hcm,hel,hget,_,_⟩
    ·exact⟨[.sl []],by simp only[WT,hu];exact⟨[],rfl,by simp,fun x hx=>by cases hx⟩,uW.one (.nil _ _) rfl⟩
    ·cases hm
     have hall:∀i,i<len->∃ds:List D,ds.length=P.cellsOf e/\WT P n e ds/\∃vs,w.cells? 0 (a.add (i*P.cellsOf e)) (P.cellsOf e)=some vs/\uW w ds vs:=by
      intro i hi;have hg:=hget i hi
      cases hcs:w.cells? 0 (a.add (i*P.cellsOf e)) (P.cellsOf e) with
      |none=>
       rw[hcs] at hg
       have:i<elems.length:=by omega
       rw[List.getElem?_eq_getElem this] at hg;cases hg
      |some vs=>
       rw[hcs] at hg
       have hlt:i<elems.length:=by omega
       rw[List.getElem?_eq_getElem hlt] at hg;obtain⟨ds,hd1,hd2⟩:=J3 hc n e vs _ he hg;have hv:=(Ir hpos hcs).2.1;exact⟨ds,by rw[hd2.1,hv],hd1,vs,rfl,hd2⟩
     obtain⟨es,hes,hp⟩:=Mv len hall
     have hwt:WT P (n+1) t [.sl es]:=by
      simp only[WT,hu]
      refine⟨es,rfl,by have:cap<=9223372036854775807:=hcm
                       omega,fun x hx=> ?_⟩
      obtain⟨i,hi⟩:=List.getElem?_of_mem hx;exact⟨(hp i x hi).1,(hp i x hi).2.1⟩
     refine⟨[.sl es],hwt,?_⟩
     cases Ia:es with
     |nil=>
      have h0:len=0:=by rw[<-hes,Ia];rfl
      subst h0;exact uW.one (.nil _ _) rfl
     |cons e0 es0=>
      have apu:0<len:=by rw[<-hes,Ia];simp
      have hlen:∀x∈es,x.length=P.cellsOf e:=fun x hx=>by
       obtain⟨i,hi⟩:=List.getElem?_of_mem hx;exact(hp i x hi).1
      obtain⟨ds0,_,_,vs0,anB,_⟩:=hall 0 apu
      have UG:a.add (0*P.cellsOf e)=a:=by simp[Addr.add]
      rw[UG] at anB;obtain⟨hsp,_,c,tt,fz,hblk,_⟩:=Ir hpos anB
      have hcell:∀i r,i<len->r<P.cellsOf e->∃(x:List D) (v:Value) (d:D),es[i]? =some x/\x[r]? =some d/\c[a.off+(i*P.cellsOf e+r)]? =some v/\dK w (kS w) d v:=by
       intro i r hi hr
       have hlt:i<es.length:=by omega
       obtain⟨hx1,hx2,vs,hvs,hrep⟩:=hp i es[i] (List.getElem?_eq_getElem hlt);obtain⟨_,hvl,c',t',ZE,hblk',hcc⟩:=Ir hpos hvs
       have hb':(a.add (i*P.cellsOf e)).block=a.block:=by unfold Addr.add;split<;>rfl
       have ho':(a.add (i*P.cellsOf e)).off=a.off+i*P.cellsOf e:=by unfold Addr.add;split<;>simp_all
       rw[hb',hblk] at hblk';cases hblk';obtain⟨v,hv1,hv2⟩:=hcc r hr
       have hdr:r<es[i].length:=by omega
       obtain⟨v',hv',hd',_⟩:=hrep.2 r es[i][r] (List.getElem?_eq_getElem hdr);rw[hv1] at hv';cases hv';refine⟨es[i],v,es[i][r],List.getElem?_eq_getElem hlt,List.getElem?_eq_getElem hdr,?_,hd'⟩;rw[ho'] at hv2;rw[<-Nat.add_assoc];exact hv2
      have hbound:a.off+len*P.cellsOf e<=c.size:=by
       obtain⟨_,v,_,_,_,hv,_⟩:=hcell (len-1) (P.cellsOf e-1) (by omega) (by omega);have:=(Array.getElem?_eq_some_iff.1 hv).1
       have e1:(len-1)*P.cellsOf e+P.cellsOf e=len*P.cellsOf e:=by
        rw[<-Nat.succ_mul];congr 1;omega
       omega
      have key:dK w (kS w) (.sl es) (.slice (some ⟨a.block,a.off,none⟩) es.length cap):=by
       refine .sl a.block a.off cap (P.cellsOf e) es (fun j=>(c[a.off+j]?).getD undef) c tt fz (by omega) hlen hblk ?_ (fun j hj=> ?_) (fun j d hj=> ?_)
       ·unfold kS;rw[hblk,hes];exact hbound
       ·have:a.off+j<c.size:=by rw[hes] at hj;omega
        rw[Array.getElem?_eq_getElem this];rfl
       ·have hfl:es.flatten.length=es.length*P.cellsOf e:=jB es _ hlen
        have hjl:j<es.length*P.cellsOf e:=by rw[<-hfl];exact(List.getElem?_eq_some_iff.1 hj).1
        have hi:j/P.cellsOf e<len:=by rw[<-hes];exact(Nat.div_lt_iff_lt_mul hpos).2 hjl
        obtain⟨x,v,d',hx,hd',hv,hr⟩:=hcell (j/P.cellsOf e) (j % P.cellsOf e) hi (Nat.mod_lt _ hpos)
        have hlt':j/P.cellsOf e<es.length:=by omega
        have hfg:=flat_get es (P.cellsOf e) hlen (j/P.cellsOf e) (j % P.cellsOf e) hlt' (Nat.mod_lt _ hpos)
        have hj':j/P.cellsOf e*P.cellsOf e+j % P.cellsOf e=j:=by rw[Nat.mul_comm];exact Nat.div_add_mod j _
        rw[hj',hj] at hfg;rw[List.getElem?_eq_getElem hlt'] at hx;cases hx;rw[hd'] at hfg;cases hfg;rw[hj'] at hv;rw[hv];exact hr
      rw[<-Ia];refine uW.one ?_ rfl
      have ha:a=⟨a.block,a.off,none⟩:=by cases a;simp at hsp;simp[hsp]
      rw[ha,<-hes];exact key
   |struct fs=>
    simp only[Bool.and_eq_true] at hcl;obtain⟨htl,hfs⟩:=hcl;obtain⟨xs,m,hm,rfl,hlen,hxs,aqV⟩:=DataW.trod_struct hu h;cases hm;rw[<-hlen] at htl
    obtain⟨ds,h1,h2⟩:=YI (w:=w) (n:=n) (cs:=cs) 0 (Nat.zero_le _) htl fun f hf=>by
     obtain⟨i,hi⟩:=List.getElem?_of_mem hf
     have hi':fs[i]? =some f:=by simpa using hi
     have hg:=aqV i f hi'
     have hlt:i<xs.length:=by
      rw[hxs];exact(Array.getElem?_eq_some_iff.1 hi').1
     rw[List.getElem?_eq_getElem hlt] at hg
     have hfL:f.type∈L:=by
      have:=List.all_eq_true.1 hfs f hf;simpa using this
     exact J3 hc n f.type _ _ hfL hg
    refine⟨ds,by simp only[WT,hu];exact h1,?_⟩;rw[List.drop_zero] at h2;exact h2
   |_=>cases hcl
end
open Go.ChangeShapes Go.WideShapes Go.ChangeAt Go.RowKit
section
variable {H:Type} {enc:TypeId×Value->H} {P:Program} {W W':World} {L:List TypeId} {t:TypeId} {v:Value} {base:Nat}
theorem ahU{d:D}(hv:v.cells.toList=[v])(hL:uW W [d] v.cells.toList):dM W (kS W) [] [] (.c (.d d)) v:=by
 obtain⟨u,h1,h2,h3⟩:=hL.2 0 d rfl;rw[hv] at h1;cases h1;exact⟨h2,h3⟩
theorem aeJ{e:TypeId}{d:D}(ht:P.underlying t=some (.slice e))(hok:Value.okWide P W .any base t v)(hL:uW W [d] v.cells.toList):dM W (kS W) [] [] (.c (.d d)) v:=by
 obtain⟨a,n,m,rfl⟩:=okWide_slice ht hok;exact ahU rfl hL
theorem aeK:oM W (kS W) [] [] [] []:=⟨rfl,fun j x h=>by simp at h⟩
theorem abz{x:V}{xs:List V}{vs:List Value}(h1:dM W (kS W) [] [] x v)(h2:oM W (kS W) [] [] xs vs):oM W (kS W) [] [] (x::xs) (v::vs):=by
 refine⟨by simp[h2.1],fun j y hj=> ?_⟩
 cases j with
 |zero=>cases hj;exact⟨v,rfl,h1⟩
 |succ j=>exact h2.2 j y hj
theorem ahV(W:World)(hg:lS W (kS W)):fA W (kS W) [] [] where
 wh:=hg
 obj:=fun k o h=>by rw[uR] at h;cases h
 apart:=fun k k' o o' h h' b h1=>by rw[uR] at h1;cases h1
 shape:=⟨rfl,fun l fr h=>by simp at h⟩
 live:=fun b=>by
  by_cases h:b<W.heap.size
  ·exact .inl h
  ·right;unfold kS;rw[Array.getElem?_eq_none (by omega)]
theorem anC{b:Nat}:¬Own [] [] b:=fun⟨k,o,h,h1,_⟩=>by rw[uR] at h1;cases h1
theorem Jo(hl:laidOutB P=true)(hsame:∀b,b<W.heap.size->W'.heap[b]? =W.heap[b]?)(sp:Nat->Bool):∀(ts:List TypeId)(vs:List Value)(ds:List (DataW H))(ps:List MemPlace),
 (ts.all fun t=>P.readableRec t&&decide (t<P.types.size))=true->(∀p∈ps,p.block<W.heap.size/\sp p.block=true)->
   DataW.TrodAll enc P W 0 (fun _=>true) true ts vs ds ps->DataW.TrodAll enc P W' 0 sp true ts vs ds ps
 |[],[],[],ps,_,_,h=>h
 |t::ts,v::vs,d::ds,ps,hr,hlt,h=>by
  simp only[List.all_cons,Bool.and_eq_true,decide_eq_true_eq] at hr;obtain⟨p,q,h1,h2,rfl⟩:=h;refine⟨p,q,WideElems.Trod_stays hl hr.1.1 hr.1.2 h1 (fun x hx=> ?_) (fun x hx=>(hlt x (by simp[hx])).2),Jo hl hsame sp ts vs ds q hr.2 (fun x hx=>hlt x (by simp[hx])) h2,rfl⟩;have hb:=(hlt x (by simp[hx])).1
  cases x with
  |cell b o=>exact World.cell?_of_block (w:=W) (hsame b hb)
  |map b=>exact hsame b hb
 |[],[],_::_,ps,_,_,h=>h.elim
 |[],_::_,_,ps,_,_,h=>h.elim
 |_::_,[],_,ps,_,_,h=>h.elim
 |_::_,_::_,[],ps,_,_,h=>h.elim
theorem ahW{f:FuncId}{fn:Func}{s:ChangeSpec}{args:Array Value}{ds gs:List (DataW H)}{before:List MemPlace}{vs:List V}{tb:TypeId}(hl:laidOutB P=true)
 (hr:(fn.params.toList.all fun t=>P.readableRec t&&decide (t<P.types.size))=true)(hvars:s.vars=[])(hres:fn.resultTypes= #[tb])(htb:P.underlying tb=some .bool)
 (hs1:(s.fn H (ds++gs)).results=[.lit (.bool true)])(hs2:(s.fn H (ds++gs)).args=ds)(hs3:(s.fn H (ds++gs)).vars=[])
 (hW:DataW.Whole enc P fn.params.toList s.vars false W args.toList ds gs before)(hargs:oM W (kS W) [] [] vs args.toList)
 (hcall:bX P f vs [] fun r _=>r=.c (.d (.b true)))(apv:lS W (kS W):=by(intro g p hm;exact absurd hm List.not_mem_nil)):
 Calls P f args W fun e W'=>∃v,e=.returned v/\s.post enc P fn false true false false W args v W':=by
 have hc:=hcall.2 W (kS W) [] args.toList (ahV W apv) hargs
 have e1:args.toList.toArray=args:=by simp
 rw[e1] at hc;refine hc.mono fun e W' ⟨v,r,S',σ',β',he,hS',hk,hst,hv,hp⟩=> ?_;subst hp;obtain⟨hv,_⟩:=hv;cases hv;refine⟨_,he,?_⟩;have hsame:∀b,b<W.heap.size->W'.heap[b]? =W.heap[b]? :=fun b hb=>(hst.far b hb anC).1;have hlt:=fun p hp=>hW.lt p hp;have hW0:=hW;obtain⟨pa,q,hA,hV,rfl,hz,hn⟩:=hW;rw[hvars] at hV
 have hq:gs=[]/\q=[]:=by
  obtain⟨h1,h2⟩:=trodVars_none hV;exact⟨h1,h2⟩
 obtain⟨rfl,rfl⟩:=hq
 rw[List.append_nil] at *
 refine⟨ds,[],pa,[],pa,[],?_,?_,?_,?_,?_,fun h=>by cases h⟩
 ·simpa using hW0
 ·rw[List.append_nil,hs1,hres];exact trodAll_cons_mk (shut_bool htb _) trodAll_mk0
 ·rw[List.append_nil,hs2];exact Jo hl hsame _ _ _ _ _ hr (fun p hp=>⟨hlt p hp,by simpa using hlt p hp⟩) hA
 ·rw[List.append_nil,hs3,hvars];rfl
 ·refine⟨hst.os,hst.output,fun i hi=> ?_⟩;rw[hsame i hi];split<;>simp_all
end
structure Hq(p:Prop):Prop where
 out:p
theorem W1{G K:Prop}(k:K)(e:Hq K->G:=by intro k;simp -implicitDefEqProofs (disch:=omega) only[go_sem];exact k.out):G:=e ⟨k⟩
theorem Z1{G:Prop}(e:G:=by simp -implicitDefEqProofs (disch:=omega) only[go_sem];done):G:=e
theorem W2{G K:Prop}(k:K)(e:Hq K->G:=by intro k;simp -implicitDefEqProofs (disch:=omega) only[go_sem]<;>(repeat(with_reducible refine And.intro ?_ ?_;focus first|omega|rfl|assumption|exact⟨_,rfl,rfl⟩|(simp;omega)|(simp;done)));exact k.out):G:=e ⟨k⟩
theorem W3{G K:Prop}(k:K)(e:Hq K->G:=by intro k;(repeat(with_reducible refine And.intro ?_ ?_;focus first|omega|rfl|assumption|exact⟨_,rfl,rfl⟩|(simp;omega)|(simp;done)));exact k.out):G:=e ⟨k⟩
theorem S0{c:Bool}{s:St}{A B:St->Prop}{P Q:Prop}{A':P->Prop}{B':Q->Prop}(k:c=true->(h:P)->A' h)(k2:c=false->(h:Q)->B' h)(e:Hq (c=true->(h:P)->A' h)->c=true->A s:=by intro k hb;have h:=hb;(try simp only[wf_preprocess] at h);simp -implicitDefEqProofs (disch:=omega) only[go_sem,hb]<;>(repeat(with_reducible refine And.intro ?_ ?_;focus first|omega|rfl|assumption|exact⟨_,rfl,rfl⟩|(simp;omega)|(simp;done)));exact k.out hb h)
 (e2:Hq (c=false->(h:Q)->B' h)->c=false->B s:=by intro k hb;have h:=hb;(try simp only[wf_preprocess] at h);simp -implicitDefEqProofs (disch:=omega) only[go_sem,hb]<;>(repeat(with_reducible refine And.intro ?_ ?_;focus first|omega|rfl|assumption|exact⟨_,rfl,rfl⟩|(simp;omega)|(simp;done)));exact k.out hb h):Split c A B s:=dS (e ⟨k⟩) (e2 ⟨k2⟩)
theorem S1{c:Bool}{s:St}{A B:St->Prop}{Q:Prop}{B':Q->Prop}(k2:c=false->(h:Q)->B' h)(e:c=true->A s:=by intro hb;have h:=hb;(try simp only[wf_preprocess] at h);simp -implicitDefEqProofs (disch:=omega) only[go_sem,hb]<;>(repeat(with_reducible refine And.intro ?_ ?_;focus first|omega|rfl|assumption|exact⟨_,rfl,rfl⟩|(simp;omega)|(simp;done)));done)
 (e2:Hq (c=false->(h:Q)->B' h)->c=false->B s:=by intro k hb;have h:=hb;(try simp only[wf_preprocess] at h);simp -implicitDefEqProofs (disch:=omega) only[go_sem,hb]<;>(repeat(with_reducible refine And.intro ?_ ?_;focus first|omega|rfl|assumption|exact⟨_,rfl,rfl⟩|(simp;omega)|(simp;done)));exact k.out hb h):Split c A B s:=dS e (e2 ⟨k2⟩)
theorem S2{c:Bool}{s:St}{A B:St->Prop}{P:Prop}{A':P->Prop}(k:c=true->(h:P)->A' h)(e:Hq (c=true->(h:P)->A' h)->c=true->A s:=by intro k hb;have h:=hb;(try simp only[wf_preprocess] at h);simp -implicitDefEqProofs (disch:=omega) only[go_sem,hb]<;>(repeat(with_reducible refine And.intro ?_ ?_;focus first|omega|rfl|assumption|exact⟨_,rfl,rfl⟩|(simp;omega)|(simp;done)));exact k.out hb h)
 (e2:c=false->B s:=by intro hb;have h:=hb;(try simp only[wf_preprocess] at h);simp -implicitDefEqProofs (disch:=omega) only[go_sem,hb]<;>(repeat(with_reducible refine And.intro ?_ ?_;focus first|omega|rfl|assumption|exact⟨_,rfl,rfl⟩|(simp;omega)|(simp;done)));done):Split c A B s:=dS (e ⟨k⟩) e2
theorem S3{c:Bool}{s:St}{A B:St->Prop}(e:c=true->A s:=by intro hb;have h:=hb;(try simp only[wf_preprocess] at h);simp -implicitDefEqProofs (disch:=omega) only[go_sem,hb]<;>(repeat(with_reducible refine And.intro ?_ ?_;focus first|omega|rfl|assumption|exact⟨_,rfl,rfl⟩|(simp;omega)|(simp;done)));done)(e2:c=false->B s:=by intro hb;have h:=hb;(try simp only[wf_preprocess] at h);simp -implicitDefEqProofs (disch:=omega) only[go_sem,hb]<;>(repeat(with_reducible refine And.intro ?_ ?_;focus first|omega|rfl|assumption|exact⟨_,rfl,rfl⟩|(simp;omega)|(simp;done)));done):Split c A B s:=dS e e2
section
variable {P:Program} {s:St} {dr:Option Nat} {f:FuncId} {args:List V} {dst:Option Nat} {K:St->Prop} {r:V}
theorem C1{Q:Prop}(h:aF P f (args.map V.uf) r)(k:Q)(e:Hq Q->K (s.put dst r):=by intro k;simp -implicitDefEqProofs (disch:=omega) only[go_sem];exact k.out):fB P dr f args s dst K:=bD h (e ⟨k⟩)
theorem C2{Q:Prop}(h:aF P f (args.map V.uf) r)(k:Q)(e:Hq Q->K (s.put dst r):=by intro k;simp -implicitDefEqProofs (disch:=omega) only[go_sem]<;>(repeat(with_reducible refine And.intro ?_ ?_;focus first|omega|rfl|assumption|exact⟨_,rfl,rfl⟩|(simp;omega)|(simp;done)));exact k.out):fB P dr f args s dst K:=bD h (e ⟨k⟩)
theorem C3(h:aF P f (args.map V.uf) r)(e:K (s.put dst r):=by simp -implicitDefEqProofs (disch:=omega) only[go_sem];done):fB P dr f args s dst K:=bD h e
theorem C4(h:aF P f (args.map V.uf) r)(e:K (s.put dst r):=by simp -implicitDefEqProofs (disch:=omega) only[go_sem]<;>(repeat(with_reducible refine And.intro ?_ ?_;focus first|omega|rfl|assumption|exact⟨_,rfl,rfl⟩|(simp;omega)|(simp;done)));done):fB P dr f args s dst K:=bD h e
end
mutual
def D.sz:D->Nat
 | .s l=>l.length
 | .sl es=>es.length+aP es
 | .b _=>0
 | .i _ _=>0
 | .o _=>0
 | .ol _ es=>es.length+aP es
def bQ:List D->Nat
 |[]=>0
 |d::ds=>d.sz+bQ ds
def aP:List (List D)->Nat
 |[]=>0
 |r::rs=>bQ r+aP rs
end
theorem bP:∀(a b:List D),bQ (a++b)=bQ a+bQ b
 |[],b=>by simp[bQ]
 |d::ds,b=>by rw[List.cons_append,bQ,bP ds b,bQ];omega
def oF(left:Int)(n:Nat):Int:=if left-n<0 then -1 else left-n
theorem LB{l:Int}{a:Nat}(h:¬oF l a<0):oF l a=l-a/\0<=l-a:=by
 unfold oF at *
 split at h
 ·omega
 ·rename_i h';exact⟨if_neg h',by omega⟩
theorem Iu{l:Int}{a:Nat}(h:oF l a<0):l-a<0:=by
 unfold oF at *
 split at h<;>omega
theorem LC{l:Int}{a:Nat}(h:l-a<0):oF l a= -1:=if_pos h
theorem Wj{l:Int}{a:Nat}(h:0<=l-a):oF l a=l-a:=if_neg (by omega)
theorem int_eq{k:IntKind}{a b:Int}(h:a=b):V.c (.d (.i k a))=V.c (.d (.i k b)):=by rw[h]
theorem aI{a b:Bool}(h:a=b):V.c (.d (.b a))=V.c (.d (.b b)):=by rw[h]
noncomputable def dec(p:Prop):Bool:= @decide p (Classical.propDecidable p)
theorem bM{p:Prop}(h:p):dec p=true:=by simp[dec,h]
theorem aR{p:Prop}(h:¬p):dec p=false:=by simp[dec,h]
theorem gJ{p:Prop}(h:dec p=true):p:=by simpa [dec] using h
theorem jo{p:Prop}(h:dec p=false):¬p:=by simpa [dec] using h
theorem Bq{p:Prop}:(dec p=true)=p:=by simp[dec]
theorem J4{p:Prop}:(dec p=false)=¬p:=by simp[dec]
attribute [wf_preprocess] Bq J4
theorem iO{p q:Prop}(h:p<->q):dec p=dec q:=by rw[propext h]
theorem ahX:dec True=true:=bM trivial
theorem aeL:dec False=false:=aR id
attribute [go_sem] ahX aeL
theorem lH{p:Prop}[Decidable p]:decide p=dec p:=by by_cases h:p<;>simp[dec,h]
theorem dz{r:List D}:∀{rs:List (List D)},r∈rs->bQ r<=aP rs
 |a::rs,h=>by
  rw[aP];rcases List.mem_cons.1 h with rfl|h
  ·omega
  ·have:=dz h;omega
def asE(z i:Nat)(R rows:List (List D)):Prop:=R.length=rows.length/\(∀r∈R,r.length=z)/\∀j,j<i->R[j]? =rows[j]?
def encS(s:List UInt8):List D:=[.s s]
def encI(n:Int):List D:=[.i .i64 n]
inductive ak where
 |mk (aM:Int) (fName:List UInt8) (fArgs:List ak)
def ak.aM:ak->Int| .mk x _ _=>x
def ak.fName:ak->List UInt8| .mk _ x _=>x
def ak.fArgs:ak->List ak| .mk _ _ x=>x
theorem ak.eta(x:ak):ak.mk x.aM x.fName x.fArgs=x:=by cases x;rfl
theorem ak.ext{x y:ak}(h0:x.aM=y.aM)(h1:x.fName=y.fName)(h2:x.fArgs=y.fArgs):x=y:=by
 rw[<-ak.eta x,<-ak.eta y,h0,h1,h2]
mutual
def ak.enc:ak->List D
 | .mk a0 a1 a2=>[.i .i64 a0,.s a1,.sl (ak.encs a2)]
def ak.encs:List ak->List (List D)
 |[]=>[]
 |x::xs=>x.enc::ak.encs xs
end
theorem ak.oG:∀l,ak.encs l=l.map ak.enc
 |[]=>rfl
 |x::xs=>by rw[ak.encs,List.map_cons,ak.oG xs]
theorem ak.aJ(x:ak):x.enc=[.i .i64 x.aM,.s x.fName,.sl (x.fArgs.map ak.enc)]:=by
 cases x;simp only[ak.enc,ak.oG,ak.aM,ak.fName,ak.fArgs]
abbrev ak.v(x:ak):V:=.agg [.d (.i .i64 x.aM),.d (.s x.fName),.d (.sl (x.fArgs.map ak.enc))]
theorem ak.eB(x:ak):x.enc.length=3:=by
 simp only[ak.aJ,List.length_append,List.length_cons,List.length_nil]
def ak.sz(x:ak):Nat:=bQ x.enc
theorem ak.dP(x:ak):bQ x.enc=x.sz:=rfl
theorem ak.iY(x:ak):SizeOf.sizeOf x.fArgs<SizeOf.sizeOf x:=by cases x;simp[ak.fArgs];omega
structure kF where
 fVar:List UInt8
 fType:ak
def kF.enc(x:kF):List D:=[.s x.fVar]++(x.fType.enc)
theorem kF.aJ(x:kF):x.enc=[.s x.fVar]++(x.fType.enc):=rfl
abbrev kF.v(x:kF):V:=.agg [.d (.s x.fVar),.d (.i .i64 x.fType.aM),.d (.s x.fType.fName),.d (.sl (x.fType.fArgs.map ak.enc))]
theorem kF.eB(x:kF):x.enc.length=4:=by
 simp only[kF.aJ,ak.eB,List.length_append,List.length_cons,List.length_nil]
def kF.sz(x:kF):Nat:=bQ x.enc
structure bW where
 bO:List UInt8
 fType:ak
def bW.enc(x:bW):List D:=[.s x.bO]++(x.fType.enc)
theorem bW.aJ(x:bW):x.enc=[.s x.bO]++(x.fType.enc):=rfl
abbrev bW.v(x:bW):V:=.agg [.d (.s x.bO),.d (.i .i64 x.fType.aM),.d (.s x.fType.fName),.d (.sl (x.fType.fArgs.map ak.enc))]
theorem bW.eB(x:bW):x.enc.length=4:=by
 simp only[bW.aJ,ak.eB,List.length_append,List.length_cons,List.length_nil]
def bW.sz(x:bW):Nat:=bQ x.enc
mutual
inductive ay where
 |mk (aM:Int) (bO:List UInt8) (fName:List UInt8) (fN:Int) (fType:ak) (fArgs:List ay) (aT:List bq)
inductive bq where
 |mk (dN:List UInt8) (aH:List (List UInt8)) (fBody:ay)
end
def ay.aM:ay->Int| .mk x _ _ _ _ _ _=>x
def ay.bO:ay->List UInt8| .mk _ x _ _ _ _ _=>x
def ay.fName:ay->List UInt8| .mk _ _ x _ _ _ _=>x
def ay.fN:ay->Int| .mk _ _ _ x _ _ _=>x
def ay.fType:ay->ak| .mk _ _ _ _ x _ _=>x
def ay.fArgs:ay->List ay| .mk _ _ _ _ _ x _=>x
def ay.aT:ay->List bq| .mk _ _ _ _ _ _ x=>x
theorem ay.eta(x:ay):ay.mk x.aM x.bO x.fName x.fN x.fType x.fArgs x.aT=x:=by cases x;rfl
theorem ay.ext{x y:ay}(h0:x.aM=y.aM)(h1:x.bO=y.bO)(h2:x.fName=y.fName)(h3:x.fN=y.fN)(h4:x.fType=y.fType)(h5:x.fArgs=y.fArgs)(h6:x.aT=y.aT):x=y:=by
 rw[<-ay.eta x,<-ay.eta y,h0,h1,h2,h3,h4,h5,h6]
def bq.dN:bq->List UInt8| .mk x _ _=>x
def bq.aH:bq->List (List UInt8)| .mk _ x _=>x
def bq.fBody:bq->ay| .mk _ _ x=>x
theorem bq.eta(x:bq):bq.mk x.dN x.aH x.fBody=x:=by cases x;rfl
theorem bq.ext{x y:bq}(h0:x.dN=y.dN)(h1:x.aH=y.aH)(h2:x.fBody=y.fBody):x=y:=by
 rw[<-bq.eta x,<-bq.eta y,h0,h1,h2]
mutual
def ay.enc:ay->List D
 | .mk a0 a1 a2 a3 a4 a5 a6=>[.i .i64 a0,.s a1,.s a2,.i .i64 a3]++(a4.enc++([.sl (ay.encs a5),.sl (bq.encs a6)]))
def ay.encs:List ay->List (List D)
 |[]=>[]
 |x::xs=>x.enc::ay.encs xs
def bq.enc:bq->List D
 | .mk a0 a1 a2=>[.s a0,.sl (a1.map encS)]++(ay.enc a2)
def bq.encs:List bq->List (List D)
 |[]=>[]
 |x::xs=>x.enc::bq.encs xs
end
theorem ay.oG:∀l,ay.encs l=l.map ay.enc
 |[]=>rfl
 |x::xs=>by rw[ay.encs,List.map_cons,ay.oG xs]
theorem bq.oG:∀l,bq.encs l=l.map bq.enc
 |[]=>rfl
 |x::xs=>by rw[bq.encs,List.map_cons,bq.oG xs]
theorem ay.aJ(x:ay):x.enc=[.i .i64 x.aM,.s x.bO,.s x.fName,.i .i64 x.fN]++(x.fType.enc++([.sl (x.fArgs.map ay.enc),.sl (x.aT.map bq.enc)])):=by
 cases x;simp only[ay.enc,ay.oG,bq.oG,ay.aM,ay.bO,ay.fName,ay.fN,ay.fType,ay.fArgs,ay.aT]
theorem bq.aJ(x:bq):x.enc=[.s x.dN,.sl (x.aH.map encS)]++(x.fBody.enc):=by
 cases x;simp only[bq.enc,ay.oG,bq.oG,bq.dN,bq.aH,bq.fBody]
abbrev ay.v(x:ay):V:=.agg [.d (.i .i64 x.aM),.d (.s x.bO),.d (.s x.fName),.d (.i .i64 x.fN),.d (.i .i64 x.fType.aM),.d (.s x.fType.fName),.d (.sl (x.fType.fArgs.map ak.enc)),.d (.sl (x.fArgs.map ay.enc)),.d (.sl (x.aT.map bq.enc))]
theorem ay.eB(x:ay):x.enc.length=9:=by
 simp only[ay.aJ,ak.eB,List.length_append,List.length_cons,List.length_nil]
def ay.sz(x:ay):Nat:=bQ x.enc
theorem ay.dP(x:ay):bQ x.enc=x.sz:=rfl
theorem ay.iY(x:ay):SizeOf.sizeOf x.fArgs<SizeOf.sizeOf x:=by cases x;simp[ay.fArgs];omega
theorem ay.vT(x:ay):SizeOf.sizeOf x.aT<SizeOf.sizeOf x:=by cases x;simp[ay.aT];omega
abbrev bq.v(x:bq):V:=.agg [.d (.s x.dN),.d (.sl (x.aH.map encS)),.d (.i .i64 x.fBody.aM),.d (.s x.fBody.bO),.d (.s x.fBody.fName),.d (.i .i64 x.fBody.fN),.d (.i .i64 x.fBody.fType.aM),.d (.s x.fBody.fType.fName),.d (.sl (x.fBody.fType.fArgs.map ak.enc)),.d (.sl (x.fBody.fArgs.map ay.enc)),.d (.sl (x.fBody.aT.map bq.enc))]
theorem bq.eB(x:bq):x.enc.length=11:=by
 simp only[bq.aJ,ay.eB,List.length_append,List.length_cons,List.length_nil]
def bq.sz(x:bq):Nat:=bQ x.enc
theorem bq.dP(x:bq):bQ x.enc=x.sz:=rfl
theorem bq.uz(x:bq):SizeOf.sizeOf x.fBody<SizeOf.sizeOf x:=by cases x;simp[bq.fBody];omega
inductive ah where
 |mk (aQ:List UInt8) (aj:List ah)
def ah.aQ:ah->List UInt8| .mk x _=>x
def ah.aj:ah->List ah| .mk _ x=>x
theorem ah.eta(x:ah):ah.mk x.aQ x.aj=x:=by cases x;rfl
theorem ah.ext{x y:ah}(h0:x.aQ=y.aQ)(h1:x.aj=y.aj):x=y:=by
 rw[<-ah.eta x,<-ah.eta y,h0,h1]
mutual
def ah.enc:ah->List D
 | .mk a0 a1=>[.s a0,.sl (ah.encs a1)]
def ah.encs:List ah->List (List D)
 |[]=>[]
 |x::xs=>x.enc::ah.encs xs
end
theorem ah.oG:∀l,ah.encs l=l.map ah.enc
 |[]=>rfl
 |x::xs=>by rw[ah.encs,List.map_cons,ah.oG xs]
theorem ah.aJ(x:ah):x.enc=[.s x.aQ,.sl (x.aj.map ah.enc)]:=by
 cases x;simp only[ah.enc,ah.oG,ah.aQ,ah.aj]
abbrev ah.v(x:ah):V:=.agg [.d (.s x.aQ),.d (.sl (x.aj.map ah.enc))]
theorem ah.Na(x:ah): .agg (x.enc.map .d)=x.v:=by
 simp only[ah.aJ,List.map_cons,List.map_nil,List.cons_append,List.nil_append,List.map_append]
theorem ah.eB(x:ah):x.enc.length=2:=by
 simp only[ah.aJ,List.length_append,List.length_cons,List.length_nil]
def ah.sz(x:ah):Nat:=bQ x.enc
theorem ah.DV(x:ah):SizeOf.sizeOf x.aj<SizeOf.sizeOf x:=by cases x;simp[ah.aj];omega
structure bA where
 fName:List UInt8
 bC:List ak
 cB:ak
 iP:Bool
 aH:List (List UInt8)
 fBody:ay
def bA.enc(x:bA):List D:=[.s x.fName,.sl (x.bC.map ak.enc)]++(x.cB.enc++([.b x.iP,.sl (x.aH.map encS)]++(x.fBody.enc)))
theorem bA.aJ(x:bA):x.enc=[.s x.fName,.sl (x.bC.map ak.enc)]++(x.cB.enc++([.b x.iP,.sl (x.aH.map encS)]++(x.fBody.enc))):=rfl
abbrev bA.v(x:bA):V:=.agg [.d (.s x.fName),.d (.sl (x.bC.map ak.enc)),.d (.i .i64 x.cB.aM),.d (.s x.cB.fName),.d (.sl (x.cB.fArgs.map ak.enc)),.d (.b x.iP),.d (.sl (x.aH.map encS)),.d (.i .i64 x.fBody.aM),.d (.s x.fBody.bO),.d (.s x.fBody.fName),.d (.i .i64 x.fBody.fN),.d (.i .i64 x.fBody.fType.aM),.d (.s x.fBody.fType.fName),.d (.sl (x.fBody.fType.fArgs.map ak.enc)),.d (.sl (x.fBody.fArgs.map ay.enc)),.d (.sl (x.fBody.aT.map bq.enc))]
theorem bA.eB(x:bA):x.enc.length=16:=by
 simp only[bA.aJ,ay.eB,ak.eB,List.length_append,List.length_cons,List.length_nil]
def bA.sz(x:bA):Nat:=bQ x.enc
structure bJ where
 fName:List UInt8
 bU:List (List UInt8)
 pY:Bool
 bR:Bool
 aA:List bA
def bJ.enc(x:bJ):List D:=[.s x.fName,.sl (x.bU.map encS),.b x.pY,.b x.bR,.sl (x.aA.map bA.enc)]
theorem bJ.aJ(x:bJ):x.enc=[.s x.fName,.sl (x.bU.map encS),.b x.pY,.b x.bR,.sl (x.aA.map bA.enc)]:=rfl
abbrev bJ.v(x:bJ):V:=.agg [.d (.s x.fName),.d (.sl (x.bU.map encS)),.d (.b x.pY),.d (.b x.bR),.d (.sl (x.aA.map bA.enc))]
theorem bJ.Na(x:bJ): .agg (x.enc.map .d)=x.v:=by
 simp only[bJ.aJ,List.map_cons,List.map_nil,List.cons_append,List.nil_append,List.map_append]
theorem bJ.eB(x:bJ):x.enc.length=5:=by
 simp only[bJ.aJ,List.length_append,List.length_cons,List.length_nil]
def bJ.sz(x:bJ):Nat:=bQ x.enc
theorem bJ.dP(x:bJ):bQ x.enc=x.sz:=rfl
structure bL where
 fName:List UInt8
 gY:List ak
def bL.enc(x:bL):List D:=[.s x.fName,.sl (x.gY.map ak.enc)]
theorem bL.aJ(x:bL):x.enc=[.s x.fName,.sl (x.gY.map ak.enc)]:=rfl
abbrev bL.v(x:bL):V:=.agg [.d (.s x.fName),.d (.sl (x.gY.map ak.enc))]
theorem bL.eB(x:bL):x.enc.length=2:=by
 simp only[bL.aJ,List.length_append,List.length_cons,List.length_nil]
def bL.sz(x:bL):Nat:=bQ x.enc
structure aX where
 fName:List UInt8
 aH:List (List UInt8)
 aC:List bL
def aX.enc(x:aX):List D:=[.s x.fName,.sl (x.aH.map encS),.sl (x.aC.map bL.enc)]
theorem aX.aJ(x:aX):x.enc=[.s x.fName,.sl (x.aH.map encS),.sl (x.aC.map bL.enc)]:=rfl
abbrev aX.v(x:aX):V:=.agg [.d (.s x.fName),.d (.sl (x.aH.map encS)),.d (.sl (x.aC.map bL.enc))]
theorem aX.eB(x:aX):x.enc.length=3:=by
 simp only[aX.aJ,List.length_append,List.length_cons,List.length_nil]
def aX.sz(x:aX):Nat:=bQ x.enc
theorem aX.dP(x:aX):bQ x.enc=x.sz:=rfl
structure cO where
 fName:List UInt8
 aH:List (List UInt8)
 fBody:ay
def cO.enc(x:cO):List D:=[.s x.fName,.sl (x.aH.map encS)]++(x.fBody.enc)
theorem cO.aJ(x:cO):x.enc=[.s x.fName,.sl (x.aH.map encS)]++(x.fBody.enc):=rfl
abbrev cO.v(x:cO):V:=.agg [.d (.s x.fName),.d (.sl (x.aH.map encS)),.d (.i .i64 x.fBody.aM),.d (.s x.fBody.bO),.d (.s x.fBody.fName),.d (.i .i64 x.fBody.fN),.d (.i .i64 x.fBody.fType.aM),.d (.s x.fBody.fType.fName),.d (.sl (x.fBody.fType.fArgs.map ak.enc)),.d (.sl (x.fBody.fArgs.map ay.enc)),.d (.sl (x.fBody.aT.map bq.enc))]
theorem cO.eB(x:cO):x.enc.length=11:=by
 simp only[cO.aJ,ay.eB,List.length_append,List.length_cons,List.length_nil]
def cO.sz(x:cO):Nat:=bQ x.enc
structure aS where
 bO:List UInt8
 aH:List (List UInt8)
 bY:ak
 dI:List bW
 iK:Bool
 fJ:Bool
 bR:ak
 aN:List cO
def aS.enc(x:aS):List D:=[.s x.bO,.sl (x.aH.map encS)]++(x.bY.enc++([.sl (x.dI.map bW.enc),.b x.iK,.b x.fJ]++(x.bR.enc++([.sl (x.aN.map cO.enc)]))))
theorem aS.aJ(x:aS):x.enc=[.s x.bO,.sl (x.aH.map encS)]++(x.bY.enc++([.sl (x.dI.map bW.enc),.b x.iK,.b x.fJ]++(x.bR.enc++([.sl (x.aN.map cO.enc)])))):=rfl
abbrev aS.v(x:aS):V:=.agg [.d (.s x.bO),.d (.sl (x.aH.map encS)),.d (.i .i64 x.bY.aM),.d (.s x.bY.fName),.d (.sl (x.bY.fArgs.map ak.enc)),.d (.sl (x.dI.map bW.enc)),.d (.b x.iK),.d (.b x.fJ),.d (.i .i64 x.bR.aM),.d (.s x.bR.fName),.d (.sl (x.bR.fArgs.map ak.enc)),.d (.sl (x.aN.map cO.enc))]
theorem aS.eB(x:aS):x.enc.length=12:=by
 simp only[aS.aJ,ak.eB,List.length_append,List.length_cons,List.length_nil]
def aS.sz(x:aS):Nat:=bQ x.enc
theorem aS.dP(x:aS):bQ x.enc=x.sz:=rfl
structure dD where
 fName:List UInt8
 fType:ak
def dD.enc(x:dD):List D:=[.s x.fName]++(x.fType.enc)
theorem dD.aJ(x:dD):x.enc=[.s x.fName]++(x.fType.enc):=rfl
abbrev dD.v(x:dD):V:=.agg [.d (.s x.fName),.d (.i .i64 x.fType.aM),.d (.s x.fType.fName),.d (.sl (x.fType.fArgs.map ak.enc))]
theorem dD.eB(x:dD):x.enc.length=4:=by
 simp only[dD.aJ,ak.eB,List.length_append,List.length_cons,List.length_nil]
def dD.sz(x:dD):Nat:=bQ x.enc
structure aY where
 fName:List UInt8
 aH:List (List UInt8)
 dI:List bW
 bC:List dD
 cB:ak
 fBody:ay
def aY.enc(x:aY):List D:=[.s x.fName,.sl (x.aH.map encS),.sl (x.dI.map bW.enc),.sl (x.bC.map dD.enc)]++(x.cB.enc++(x.fBody.enc))
theorem aY.aJ(x:aY):x.enc=[.s x.fName,.sl (x.aH.map encS),.sl (x.dI.map bW.enc),.sl (x.bC.map dD.enc)]++(x.cB.enc++(x.fBody.enc)):=rfl
abbrev aY.v(x:aY):V:=.agg [.d (.s x.fName),.d (.sl (x.aH.map encS)),.d (.sl (x.dI.map bW.enc)),.d (.sl (x.bC.map dD.enc)),.d (.i .i64 x.cB.aM),.d (.s x.cB.fName),.d (.sl (x.cB.fArgs.map ak.enc)),.d (.i .i64 x.fBody.aM),.d (.s x.fBody.bO),.d (.s x.fBody.fName),.d (.i .i64 x.fBody.fN),.d (.i .i64 x.fBody.fType.aM),.d (.s x.fBody.fType.fName),.d (.sl (x.fBody.fType.fArgs.map ak.enc)),.d (.sl (x.fBody.fArgs.map ay.enc)),.d (.sl (x.fBody.aT.map bq.enc))]
theorem aY.eB(x:aY):x.enc.length=16:=by
 simp only[aY.aJ,ay.eB,ak.eB,List.length_append,List.length_cons,List.length_nil]
def aY.sz(x:aY):Nat:=bQ x.enc
theorem aY.dP(x:aY):bQ x.enc=x.sz:=rfl
structure aU where
 fName:List UInt8
 eH:List (List UInt8)
 aG:List bJ
 au:List aX
 aD:List aS
 aK:List aY
def aU.enc(x:aU):List D:=[.s x.fName,.sl (x.eH.map encS),.sl (x.aG.map bJ.enc),.sl (x.au.map aX.enc),.sl (x.aD.map aS.enc),.sl (x.aK.map aY.enc)]
theorem aU.aJ(x:aU):x.enc=[.s x.fName,.sl (x.eH.map encS),.sl (x.aG.map bJ.enc),.sl (x.au.map aX.enc),.sl (x.aD.map aS.enc),.sl (x.aK.map aY.enc)]:=rfl
theorem aU.eta(x:aU):aU.mk x.fName x.eH x.aG x.au x.aD x.aK=x:=rfl
abbrev aU.v(x:aU):V:=.agg [.d (.s x.fName),.d (.sl (x.eH.map encS)),.d (.sl (x.aG.map bJ.enc)),.d (.sl (x.au.map aX.enc)),.d (.sl (x.aD.map aS.enc)),.d (.sl (x.aK.map aY.enc))]
theorem aU.eB(x:aU):x.enc.length=6:=by
 simp only[aU.aJ,List.length_append,List.length_cons,List.length_nil]
def aU.sz(x:aU):Nat:=bQ x.enc
structure qw where
 J5:List aU
def qw.enc(x:qw):List D:=[.sl (x.J5.map aU.enc)]
theorem qw.aJ(x:qw):x.enc=[.sl (x.J5.map aU.enc)]:=rfl
abbrev qw.v(x:qw):V:=.agg [.d (.sl (x.J5.map aU.enc))]
theorem qw.eB(x:qw):x.enc.length=1:=by
 simp only[qw.aJ,List.length_append,List.length_cons,List.length_nil]
def qw.sz(x:qw):Nat:=bQ x.enc
structure j3 where
 Nb:Int
 fAt:Int
def j3.enc(x:j3):List D:=[.i .i64 x.Nb,.i .i64 x.fAt]
theorem j3.aJ(x:j3):x.enc=[.i .i64 x.Nb,.i .i64 x.fAt]:=rfl
abbrev j3.v(x:j3):V:=.agg [.d (.i .i64 x.Nb),.d (.i .i64 x.fAt)]
theorem j3.eB(x:j3):x.enc.length=2:=by
 simp only[j3.aJ,List.length_append,List.length_cons,List.length_nil]
def j3.sz(x:j3):Nat:=bQ x.enc
attribute [go_sem] ak.aJ kF.aJ bW.aJ ay.aJ bq.aJ ah.aJ bA.aJ bJ.aJ bL.aJ aX.aJ cO.aJ aS.aJ dD.aJ aY.aJ aU.aJ qw.aJ j3.aJ encS encI
def ZN:List kF->List UInt8->Option ak
 |[],_=>none
 |b::bs,v=>if b.fVar=v then some b.fType else ZN bs v
mutual
noncomputable def anE(s:List kF):ak->ak->Option (List kF)
 | .mk k n a,t=>
   if k=1 then
    match ZN s n with
    |some u=>if dec (u=t)=true then some s else none
    |none=>some (s++[⟨n,t⟩])
   else if k=t.aM/\n=t.fName/\a.length=t.fArgs.length then aeM s a t.fArgs else none
noncomputable def aeM(s:List kF):List ak->List ak->Option (List kF)
 |[],_=>some s
 |_::_,[]=>none
 |p::ps,t::ts=>
  match anE s p t with
  |some s'=>aeM s' ps ts
  |none=>none
end
mutual
def ak.cnt:ak->Nat
 | .mk _ _ a=>1+ak.eT a
def ak.eT:List ak->Nat
 |[]=>0
 |t::ts=>t.cnt+ak.eT ts
end
theorem ak.qH(t:ak):t.cnt=1+ak.eT t.fArgs:=by cases t;rw[ak.cnt];rfl
mutual
theorem mF:∀t:ak,t.cnt<=1+t.sz
 | .mk k n a=>by
   have h:=za a;rw[ak.cnt]
   have e:(ak.mk k n a).sz=n.length+(a.length+aP (a.map ak.enc)):=by
    simp only[ak.sz,ak.aJ,bQ,D.sz,List.length_map,ak.fName,ak.fArgs,Nat.add_zero,Nat.zero_add]
   omega
theorem za:∀ts:List ak,ak.eT ts<=ts.length+aP (ts.map ak.enc)
 |[]=>by simp[ak.eT]
 |t::ts=>by
  have h1:=mF t;have h2:=za ts;rw[ak.eT,List.length_cons,List.map_cons,aP,ak.dP];omega
end
def Small(s:List kF):Prop:=∀b∈s,b.fType.sz<=4194304
end Go.Ab
namespace Go.Proofs.YtlaaknnkeidlbaaGreatDoor.Fa
open Go Go.Ab
abbrev fM(t c b:Nat)(z:List C):Prop:=prog.cellsOf t=c/\prog.bytesOf t=b/\(prog.info? t).isSome=true/\jI prog t=some z
theorem fQ{t c b:Nat}{z:List C}(h1:prog.cellsOf t=c:=by kernel_rfl)(h2:prog.bytesOf t=b:=by kernel_rfl)(h3:(prog.info? t).isSome=true:=by kernel_rfl)(h4:jI prog t=some z:=by kernel_rfl):fM t c b z:=⟨h1,h2,h3,h4⟩
theorem ty1:fM 1 1 8 [.d (.o .nilFunc)]:=fQ
theorem ty2:fM 2 1 8 [.d (.i .i64 0)]:=fQ
theorem ty3:fM 3 1 8 [.d (.i .i64 0)]:=fQ
theorem ty4:fM 4 1 1 [.d (.b false)]:=fQ
theorem apw:zeroV prog 4=some (.bool false):=by kernel_rfl
theorem ty5:fM 5 1 1 [.d (.i .u8 0)]:=fQ
theorem ty9:fM 9 1 16 [.d (.s [])]:=fQ
theorem aqW:fM 12 1 8 [.d (.i .u64 0)]:=fQ
theorem aqX:fM 20 1 16 [.d (.o .nilIface)]:=fQ
theorem aqY:fM 21 1 4 [.d (.i .i32 0)]:=fQ
theorem aqZ:fM 22 1 24 [.bF []]:=fQ
theorem aq0:fM 23 1 8 [.d (.o .nilFunc)]:=fQ
theorem aq1:fM 24 1 24 [.bF []]:=fQ
theorem aq2:fM 25 3 48 [.d (.i .i64 0),.d (.s []),.bF []]:=fQ
theorem aq3:fM 26 3 48 [.d (.i .i64 0),.d (.s []),.bF []]:=fQ
theorem aq4:fM 27 1 24 [.bF []]:=fQ
theorem aq5:fM 28 1 24 [.bF []]:=fQ
theorem aq6:fM 29 9 144 [.d (.i .i64 0),.d (.s []),.d (.s []),.d (.i .i64 0),.d (.i .i64 0),.d (.s []),.bF [],.bF [],.bF []]:=fQ
theorem aq7:fM 30 9 144 [.d (.i .i64 0),.d (.s []),.d (.s []),.d (.i .i64 0),.d (.i .i64 0),.d (.s []),.bF [],.bF [],.bF []]:=fQ
theorem aq8:fM 31 1 8 [.d (.o .nilFunc)]:=fQ
theorem aq9:fM 32 1 8 [.d (.o .nilFunc)]:=fQ
theorem ara:fM 34 1 8 [.d (.o .nilFunc)]:=fQ
theorem arb:fM 35 1 24 [.bF []]:=fQ
theorem ard:fM 36 2 40 [.d (.s []),.bF []]:=fQ
theorem arf:fM 37 2 40 [.d (.s []),.bF []]:=fQ
theorem arh:fM 38 1 8 [.d (.o .nilFunc)]:=fQ
theorem ari:fM 39 1 8 [.d (.o .nilFunc)]:=fQ
theorem arj:fM 40 1 8 [.d (.o .nilFunc)]:=fQ
theorem ark:fM 41 1 8 [.d (.o .nilFunc)]:=fQ
theorem arl:fM 42 1 8 [.d (.o .nilFunc)]:=fQ
theorem arn:fM 43 1 24 [.bF []]:=fQ
theorem aro:fM 44 1 24 [.bF []]:=fQ
theorem arp:fM 45 1 24 [.bF []]:=fQ
theorem arq:fM 46 1 24 [.bF []]:=fQ
theorem ars:fM 47 1 24 [.bF []]:=fQ
theorem aru:fM 48 6 136 [.d (.s []),.bF [],.bF [],.bF [],.bF [],.bF []]:=fQ
theorem arv:fM 49 6 136 [.d (.s []),.bF [],.bF [],.bF [],.bF [],.bF []]:=fQ
theorem arw:fM 50 1 8 [.d (.o .nilFunc)]:=fQ
theorem arx:fM 51 1 8 [.d (.o .nilFunc)]:=fQ
theorem arz:fM 52 1 8 [.d (.o .nilFunc)]:=fQ
theorem arA:fM 54 1 8 [.d (.o .nilFunc)]:=fQ
theorem arB:fM 55 1 8 [.d (.o .nilFunc)]:=fQ
theorem arC:fM 56 1 8 [.d (.o .nilFunc)]:=fQ
theorem arD:fM 57 1 8 [.d (.o .nilFunc)]:=fQ
theorem arE:fM 58 1 8 [.d (.o (.pointer none))]:=fQ
theorem arF:fM 63 1 8 [.d (.o .nilFunc)]:=fQ
theorem arG:fM 64 1 8 [.d (.o .nilFunc)]:=fQ
theorem arH:fM 65 1 8 [.d (.o .nilFunc)]:=fQ
theorem arI:fM 66 1 8 [.d (.o .nilFunc)]:=fQ
theorem arJ:fM 67 1 8 [.d (.o .nilFunc)]:=fQ
theorem arK:fM 68 1 8 [.d (.o .nilFunc)]:=fQ
theorem arL:fM 69 1 8 [.d (.o .nilFunc)]:=fQ
theorem arM:fM 70 1 8 [.d (.o .nilFunc)]:=fQ
theorem arN:fM 71 1 8 [.d (.o .nilFunc)]:=fQ
theorem arO:fM 73 11 184 [.d (.s []),.bF [],.d (.i .i64 0),.d (.s []),.d (.s []),.d (.i .i64 0),.d (.i .i64 0),.d (.s []),.bF [],.bF [],.bF []]:=fQ
theorem arP:fM 77 1 8 [.d (.o .nilFunc)]:=fQ
theorem arQ:fM 79 1 8 [.d (.o .nilFunc)]:=fQ
theorem arR:fM 80 1 8 [.d (.o .nilFunc)]:=fQ
theorem arS:fM 81 1 24 [.bF []]:=fQ
theorem arT:fM 82 1 24 [.bF []]:=fQ
theorem arU:fM 83 5 72 [.d (.s []),.bF [],.d (.b false),.d (.b false),.bF []]:=fQ
theorem arV:fM 84 5 72 [.d (.s []),.bF [],.d (.b false),.d (.b false),.bF []]:=fQ
theorem arW:fM 86 1 24 [.bF []]:=fQ
theorem arX:fM 88 3 64 [.d (.s []),.bF [],.bF []]:=fQ
theorem arY:fM 90 1 24 [.bF []]:=fQ
theorem arZ:fM 91 1 24 [.bF []]:=fQ
theorem ar0:fM 92 12 192 [.d (.s []),.bF [],.d (.i .i64 0),.d (.s []),.bF [],.bF [],.d (.b false),.d (.b false),.d (.i .i64 0),.d (.s []),.bF [],.bF []]:=fQ
theorem ar1:fM 93 12 192 [.d (.s []),.bF [],.d (.i .i64 0),.d (.s []),.bF [],.bF [],.d (.b false),.d (.b false),.d (.i .i64 0),.d (.s []),.bF [],.bF []]:=fQ
theorem ar2:fM 95 1 24 [.bF []]:=fQ
theorem ar3:fM 96 16 280 [.d (.s []),.bF [],.bF [],.bF [],.d (.i .i64 0),.d (.s []),.bF [],.d (.i .i64 0),.d (.s []),.d (.s []),.d (.i .i64 0),.d (.i .i64 0),.d (.s []),.bF [],.bF [],.bF []]:=fQ
theorem ar4:fM 97 16 280 [.d (.s []),.bF [],.bF [],.bF [],.d (.i .i64 0),.d (.s []),.bF [],.d (.i .i64 0),.d (.s []),.d (.s []),.d (.i .i64 0),.d (.i .i64 0),.d (.s []),.bF [],.bF [],.bF []]:=fQ
theorem apx:fM 110 1 8 [.d (.o (.pointer none))]:=fQ
theorem apy:fM 113 1 24 [.bF []]:=fQ
theorem apz:fM 116 3 40 [.bF [],.d (.i .i64 0),.d (.i .i64 0)]:=fQ
theorem apA:fM 118 1 8 [.d (.o (.pointer none))]:=fQ
theorem apB:fM 120 2 32 [.d (.o (.pointer none)),.bF []]:=fQ
theorem apC:fM 123 1 24 [.bF []]:=fQ
theorem apD:fM 127 1 8 [.d (.o .nilFunc)]:=fQ
theorem apE:fM 128 1 8 [.d (.o .nilFunc)]:=fQ
theorem apF:fM 129 1 8 [.d (.o .nilFunc)]:=fQ
theorem apG:fM 158 4 96 [.bF [],.bF [],.bF [],.bF []]:=fQ
theorem apH:fM 161 16 264 [.d (.s []),.bF [],.d (.i .i64 0),.d (.s []),.bF [],.d (.b false),.bF [],.d (.i .i64 0),.d (.s []),.d (.s []),.d (.i .i64 0),.d (.i .i64 0),.d (.s []),.bF [],.bF [],.bF []]:=fQ
theorem apI:fM 164 2 40 [.d (.s []),.bF []]:=fQ
theorem apJ:fM 167 1 8 [.d (.o .nilFunc)]:=fQ
theorem apK:fM 171 11 184 [.d (.s []),.bF [],.d (.i .i64 0),.d (.s []),.d (.s []),.d (.i .i64 0),.d (.i .i64 0),.d (.s []),.bF [],.bF [],.bF []]:=fQ
theorem apL:fM 176 1 8 [.d (.o (.pointer none))]:=fQ
theorem apM:fM 178 5 48 [.d (.s []),.d (.i .i64 0),.d (.i .i64 0),.d (.i .i64 0),.d (.b false)]:=fQ
theorem apN:fM 190 1 16 [.d (.o .nilIface)]:=fQ
theorem apO:fM 194 1 8 [.d (.o (.pointer none))]:=fQ
theorem apP:fM 206 1 8 [.d (.o .nilFunc)]:=fQ
theorem apQ:fM 216 4 64 [.d (.s []),.d (.i .i64 0),.d (.s []),.bF []]:=fQ
theorem apR:fM 218 4 64 [.d (.s []),.d (.i .i64 0),.d (.s []),.bF []]:=fQ
theorem apS:fM 220 1 8 [.d (.o (.map none))]:=fQ
theorem apU:fM 224 1 8 [.d (.o .nilFunc)]:=fQ
theorem apV:fM 227 1 8 [.d (.o .nilFunc)]:=fQ
theorem apW:fM 255 1 8 [.d (.o .nilFunc)]:=fQ
theorem apX:fM 275 1 24 [.bF []]:=fQ
theorem laidOut:laidOutB prog=true:=by kernel_rfl
theorem own:ownKnob prog.godebug=none:=by kernel_rfl
attribute [go_sem] ty1 underlying1 ty2 underlying2 ty3 underlying3 ty4 underlying4 apw ty5 underlying5 ty9 underlying9 aqW underlying12 aqX underlying20 aqY underlying21 aqZ underlying22 aq0 underlying23 aq1 underlying24 aq2 underlying25 aq3 underlying26 aq4 underlying27 aq5 underlying28 aq6 underlying29 aq7 underlying30 aq8 underlying31 aq9 underlying32 ara underlying34 arb underlying35 ard underlying36 arf underlying37 arh underlying38 ari underlying39 arj underlying40 ark underlying41 arl underlying42 arn underlying43 aro underlying44 arp underlying45 arq underlying46 ars underlying47 aru underlying48 arv underlying49 arw underlying50 arx underlying51 arz underlying52 arA underlying54 arB underlying55 arC underlying56 arD underlying57 arE underlying58 arF underlying63 arG underlying64 arH underlying65 arI underlying66 arJ underlying67 arK underlying68 arL underlying69 arM underlying70 arN underlying71 arO underlying73 arP underlying77 arQ underlying79 arR underlying80 arS underlying81 arT underlying82 arU underlying83 arV underlying84 arW underlying86 arX underlying88 arY underlying90 arZ underlying91 ar0 underlying92 ar1 underlying93 ar2 underlying95 ar3 underlying96 ar4 underlying97 apx underlying110 apy underlying113 apz underlying116 apA underlying118 apB underlying120 apC underlying123 apD underlying127 apE underlying128 apF underlying129 apG underlying158 apH underlying161 apI underlying164 apJ underlying167 apK underlying171 apL underlying176 apM underlying178 apN underlying190 apO underlying194 apP underlying206 apQ underlying216 apR underlying218 apS underlying220 apU underlying224 apV underlying227 apW underlying255 apX underlying275
end Go.Proofs.YtlaaknnkeidlbaaGreatDoor.Fa
namespace Go.Ab
theorem O0(xs ys:List (List UInt8))(hsz:xs.length<=1073741824):aF prog 23 [.c (.d (.sl (xs.map encS))),.c (.d (.sl (ys.map encS)))] (.c (.d (.b (dec (xs=ys))))):=by
 intro S;refine zcx [.tmp 4] func23 ntmps23 ?_;refine W1 ?_;refine S0 (fun hb h=>?_) fun hb h=>?_
 ·exact aI (aR (fun e=>h (by rw[e]))).symm
 have hl:xs.length=ys.length:=by omega
 refine aZ (ι:=Nat) zmx rfl [0,1,5] (fun y=>[.c (.d (.sl (xs.map encS))),.c (.d (.sl (ys.map encS))),.c (.d (.i .i64 y))]) (fun y=>[]::S)
  (fun i=>i<=xs.length/\∀j,j<i->xs[j]? =ys[j]?) (fun y=>xs.length-y) 0 rfl rfl ⟨Nat.zero_le _,fun j h=>by omega⟩ ?_
 rintro i ⟨p1,p2⟩;refine W1 ?_;refine S0 (fun hb h=>?_) fun hb h=>?_
 ·have hi:i<xs.length:=by omega
  have hi':i<ys.length:=by omega
  refine W3 ?_;refine S0 (fun hb h=>?_) fun hb h=>?_
  ·exact aI (aR (fun e=>h (by simp only[e]))).symm
  refine dB (i+1) (by omega) rfl rfl ⟨by omega,fun j hj=> ?_⟩;by_cases e:j=i
  ·subst e;rw[List.getElem?_eq_getElem hi,List.getElem?_eq_getElem hi',h]
  ·exact p2 j (by omega)
 ·have hi:i=xs.length:=by omega
  refine aI (bM (List.ext_getElem? fun j=> ?_)).symm;by_cases hj:j<i
  ·exact p2 j hj
  ·rw[List.getElem?_eq_none (by omega),List.getElem?_eq_none (by omega)]
mutual
def ay.cnt:ay->Nat
 | .mk _ _ _ _ _ a b=>1+(ay.eT a+bq.eT b)
def ay.eT:List ay->Nat
 |[]=>0
 |x::xs=>x.cnt+ay.eT xs
def bq.cnt:bq->Nat
 | .mk _ _ b=>b.cnt
def bq.eT:List bq->Nat
 |[]=>0
 |x::xs=>x.cnt+bq.eT xs
end
theorem ay.qH(x:ay):x.cnt=1+(ay.eT x.fArgs+bq.eT x.aT):=by cases x;rw[ay.cnt];rfl
theorem bq.qH(x:bq):x.cnt=x.fBody.cnt:=by cases x;rw[bq.cnt];rfl
theorem ay.ng{xs:List ay}{i:Nat}(hi:i<xs.length):ay.eT (xs.drop i)=xs[i].cnt+ay.eT (xs.drop (i+1)):=by rw[List.drop_eq_getElem_cons hi,ay.eT]
theorem bq.ng{xs:List bq}{i:Nat}(hi:i<xs.length):bq.eT (xs.drop i)=xs[i].fBody.cnt+bq.eT (xs.drop (i+1)):=by rw[List.drop_eq_getElem_cons hi,bq.eT,bq.qH]
theorem ay.Es(x:ay):x.fArgs.length+aP (x.fArgs.map ay.enc)<=x.sz/\x.aT.length+aP (x.aT.map bq.enc)<=x.sz:=by
 simp only[ay.sz,ay.aJ,bQ,bP,D.sz,List.length_map];omega
theorem bq.Rl(x:bq):x.fBody.sz<=x.sz:=by
 simp only[bq.sz,bq.aJ,ay.sz,bQ,bP,D.sz,List.length_map];omega
mutual
theorem ay.mF:∀x:ay,x.cnt<=1+x.sz
 | .mk k t n m ty a b=>by
   have h1:=ay.za a;have h2:=bq.za b;rw[ay.cnt];simp only[ay.sz,ay.aJ,bQ,bP,D.sz,List.length_map,ay.fArgs,ay.aT];omega
theorem ay.za:∀xs:List ay,ay.eT xs<=xs.length+aP (xs.map ay.enc)
 |[]=>by simp[ay.eT]
 |x::xs=>by
  have h1:=ay.mF x;have h2:=ay.za xs;rw[ay.eT,List.length_cons,List.map_cons,aP,ay.dP];omega
theorem bq.mF:∀x:bq,x.cnt<=1+x.sz
 | .mk c v b=>by
   have h1:=ay.mF b;have h2:=bq.Rl (.mk c v b);rw[bq.cnt];simp only[bq.fBody] at h2;omega
theorem bq.za:∀xs:List bq,bq.eT xs<=xs.length+aP (xs.map bq.enc)
 |[]=>by simp[bq.eT]
 |x::xs=>by
  have h1:=bq.mF x;have h2:=bq.za xs;rw[bq.eT,List.length_cons,List.map_cons,aP,bq.dP];omega
end
theorem Et:∀n:Nat,∀x:ay,SizeOf.sizeOf x<n->x.sz<=4194304->aF prog 96 [x.v] (.c (.d (.i .i64 x.cnt)))
 |0=>fun x h=>by omega
 |n+1=>by
  have ih:=Et n;intro x hn hsz S;have kV:=ay.iY x;have Dv:=ay.vT x;have hp:=ay.Es x;have hc:=ay.mF x;have he:=ay.qH x;refine zcx [.tmp 2] func96 ntmps96 ?_;refine W1 ?_
  refine aZ (ι:=Nat×Nat) zmx rfl [1,3,9,10,11] (fun y=>[.c (.ptr (0,0) 0),.c (.d (.i .i64 y.2)),.c (.d (.sl (x.fArgs.map ay.enc))),.c (.d (.i .i64 x.fArgs.length)),.c (.d (.i .i64 y.1))]) (fun y=>[.box (x.enc.map .d)]::S)
   (fun y=>y.1<=x.fArgs.length/\x.cnt=y.2+ay.eT (x.fArgs.drop y.1)+bq.eT x.aT) (fun y=>x.fArgs.length-y.1) (0,1) rfl ?_ ⟨Nat.zero_le _,by simp only[List.drop_zero];omega⟩ ?_
  ·exact Z1
  rintro⟨i,c⟩ ⟨p1,p2⟩;simp only at p1 p2;refine W1 ?_;refine S0 (fun hb h=>?_) fun hb h=>?_
  ·have hi:i<x.fArgs.length:=by omega
   have hx:x.fArgs[i].sz<=aP (x.fArgs.map ay.enc):=dz (List.mem_map_of_mem (List.getElem_mem hi));rw[ay.ng hi] at p2;refine W3 ?_;refine C2 (ih x.fArgs[i] (by have:=List.sizeOf_lt_of_mem (List.getElem_mem hi);omega) (by omega)) ?_;rw[show(c:Int)+(x.fArgs[i].cnt:Int)=((c+x.fArgs[i].cnt:Nat):Int) by omega];exact bT 1 (by decide) (i+1,c+x.fArgs[i].cnt) (by simp only;omega) rfl rfl rfl rfl ⟨by simp only;omega,by simp only;omega⟩
  have hi:i=x.fArgs.length:=by omega
  rw[hi,List.drop_length,ay.eT] at p2
  refine aZ (ι:=Nat×Nat) zmx rfl [3,21,22,23] (fun y=>[.c (.d (.i .i64 y.2)),.c (.d (.sl (x.aT.map bq.enc))),.c (.d (.i .i64 x.aT.length)),.c (.d (.i .i64 y.1))]) (fun y=>[.box (x.enc.map .d)]::S)
   (fun y=>y.1<=x.aT.length/\x.cnt=y.2+bq.eT (x.aT.drop y.1)) (fun y=>x.aT.length-y.1) (0,c) rfl ?_ ⟨Nat.zero_le _,by simp only[List.drop_zero];omega⟩ ?_
  ·exact Z1
  clear p1 p2 hb h hi i;rintro⟨i,d⟩ ⟨p1,p2⟩;simp only at p1 p2;refine W1 ?_;refine S0 (fun hb h=>?_) fun hb h=>?_
  ·have hi:i<x.aT.length:=by omega
   have hx:x.aT[i].sz<=aP (x.aT.map bq.enc):=dz (List.mem_map_of_mem (List.getElem_mem hi));have hy:=bq.Rl x.aT[i];have hs:=List.sizeOf_lt_of_mem (List.getElem_mem hi);have hs':=bq.uz x.aT[i];rw[bq.ng hi] at p2;refine W3 ?_;refine C2 (ih x.aT[i].fBody (by omega) (by omega)) ?_;rw[show(d:Int)+(x.aT[i].fBody.cnt:Int)=((d+x.aT[i].fBody.cnt:Nat):Int) by omega];exact bT 1 (by decide) (i+1,d+x.aT[i].fBody.cnt) (by simp only;omega) rfl rfl rfl rfl ⟨by simp only;omega,by simp only;omega⟩
  ·have hi:i=x.aT.length:=by omega
   rw[hi,List.drop_length,bq.eT] at p2;exact int_eq (by omega)
theorem O1(x:ay)(hsz:x.sz<=4194304):aF prog 96 [x.v] (.c (.d (.i .i64 x.cnt))):=Et _ x (Nat.lt_succ_self _) hsz
end Go.Ab