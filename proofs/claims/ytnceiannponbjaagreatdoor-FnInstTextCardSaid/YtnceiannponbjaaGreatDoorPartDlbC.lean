/-
  SEVERAL TEXTS IN ONE (merged by program): contracts and models, each with its own heading.
-/
import Derived.Test.YtnceiannponbjaaGreatDoorPartDlbB
import Derived.Carry
import Derived.WideKeyArgs
import Derived.ProofKit
import Derived.OpenShut
import Derived.WalkKit
import Derived.Test.YtnceiannponbjaaGreatDoorChecked
import Derived.Eval
import Derived.KernelRfl
open Go.Proofs Go.Proofs.Tryz
theorem Go.Ab.zmx:Go.Proofs.Tryz.prog.follows .mixedOrders=true:=Go.Proofs.Tryz.checked.mixed
open Go Go.Ab in
theorem Go.Ab.zcx{N:Nat}{S:Store}{f:FuncId}{fn:Func}{c:Code}{args:List V}{post:V->Store->Prop}(rs:List ResultVar)(hf:Tryz.prog.funcs[f]? =some fn)(hN:fn.ntmps=N)(h:CW Tryz.prog N c (Lx Tryz.prog rs post) ⟨jZ (args.map (V.up 1)) 0,[]::S⟩)(hb:fn.body=some c:=by exact rfl)(hn:(fn.name== "runtime.NumGoroutine")=false:=by exact rfl)(hr:fn.results.toList=rs:=by exact rfl)(hl:Nat.ble args.length N=true:=by exact rfl)(hok:codeOk N c=true:=by exact rfl):bJ Tryz.prog f args S post:=aG (rs:=rs) zmx hf hN hb hn hr hl hok h
set_option linter.unusedSimpArgs false
set_option linter.unusedVariables false
set_option maxRecDepth 4000
namespace Go.Ab
section
variable {P:Program} {S S':Store} {N:Nat} {s:St}
theorem aV{α:Type}{fr:List α}{S:List (List α)}{l j:Nat}:aW (fr::S) (1+l,j)=aW S (l,j):=by rw[Nat.add_comm,bM]
theorem ay{α:Type}{fr:List α}{S:List (List α)}{l j:Nat}{x:α}:aX (fr::S) (1+l,j) x=fr::aX S (l,j) x:=by rw[Nat.add_comm,aX]
theorem agj{n l j:Nat}:yU n (l,j)=(n+l,j):=rfl
theorem VU{l j:Nat}{es:List (List D)}:C.ret (.bK (1+l,j) es)=some (.bK (l,j) es):=by
 rw[Nat.add_comm];show C.down 1 (.bK (l+1,j) es)=_;simp[C.down]
theorem ret_tsl_0{j:Nat}{es:List (List D)}:C.ret (.bK (0,j) es)=some (.d (.sl es)):=rfl
theorem ahK{x:D}:C.ret (.d x)=some (.d x):=rfl
theorem aex:C.ret .any=some .any:=rfl
theorem aey{es:List (List D)}:C.ret (.bE es)=some (.bE es):=rfl
theorem aez{n:Nat}{es:List (List D)}:C.ret (.jw n es)=some (.jw n es):=rfl
theorem abM{cs:List D}:C.ret (.kT cs)=some (.kT cs):=rfl
theorem aeA{l j off:Nat}:C.ret (.ptr (1+l,j) off)=some (.ptr (l,j) off):=by
 rw[Nat.add_comm];show C.down 1 (.ptr (l+1,j) off)=_;simp[C.down]
theorem aeB{j:Nat}{es es':List (List D)}{k:Key}:C.mo j es (.bK k es')=.bK k es':=rfl
theorem ahL{x:D}:C.rU (.d x)=.d x:=rfl
theorem aeC:C.rU .any=.any:=rfl
theorem aeD{k:Key}{off:Nat}:C.rU (.ptr k off)=.ptr k off:=rfl
theorem agk{f:Nat}{caps:List (Key×Nat)}:C.rU (.fn f caps)=.fn f caps:=rfl
theorem aeE{k:Key}:C.rU (.gQ k)=.gQ k:=rfl
theorem abN{cs:List D}:C.rU (.kT cs)=.kT cs:=rfl
theorem ahM{j:Nat}{es:List (List D)}{x:D}:C.mo j es (.d x)=.d x:=rfl
theorem aeF{j:Nat}{es:List (List D)}:C.mo j es .any=.any:=rfl
theorem aeG{j:Nat}{es es':List (List D)}:C.mo j es (.bE es')=.bE es':=rfl
theorem aeH{j:Nat}{es:List (List D)}{k:Key}{off:Nat}:C.mo j es (.ptr k off)=.ptr k off:=rfl
theorem agl{j:Nat}{es:List (List D)}{f:Nat}{caps:List (Key×Nat)}:C.mo j es (.fn f caps)=.fn f caps:=rfl
theorem aeI{j n:Nat}{es es':List (List D)}:C.mo j es (.jw n es')=.jw n es':=rfl
theorem aeJ{n:Nat}{es:List (List D)}:C.rU (.jw n es)=.jw n es:=rfl
theorem abO{j:Nat}{es:List (List D)}{cs:List D}:C.mo j es (.kT cs)=.kT cs:=rfl
theorem aeK{j i:Nat}{es:List (List D)}:C.mo j es (.gQ (0,i))=if i=j then .d (.sl es) else .gQ (0,i):=rfl
theorem bJ.abP{f:FuncId}(i:Nat){es:List (List D)}{aQ:Nat}{args:List V}{post post':V->Store->Prop}(hi:args[i]? =some (.c (.bE es)))(hes:∀e∈es,e.length=aQ)
 (h:bJ P f ((args.map (V.up 1)).set i (.c (.bK (0,0) es))) ([.tok aQ es]::S) post)
 (hp:∀r fr S',post r (fr::S')->∃r',r.ret=some r'/\post' r' S'):bJ P f args S post':=by
 refine⟨h.1,fun w σ β vs hS hargs=> ?_⟩;obtain⟨v,hv0,⟨hd,ad,n,hval⟩,hone⟩:=hargs.2 i _ hi
 ·have hn:n=es.length:=by rw[hval] at hd;cases hd<;>rfl
  have hg:Grow w σ w σ:=Grow.refl hS.live
  obtain⟨hS',hk,hst⟩:=hS.up1.push (o:=.tok aQ es) (h:=v) hg rfl ⟨hd,hes,ad,n,by rw[hval,hn],by omega,.inl hn⟩ (fun b hb=>by
   rw[hval,hn] at hb
   cases ad<;>simp[owns,blk] at hb)
  have hargs':nZ w σ ([.tok aQ es]::S) ([v]::β) ((args.map (V.up 1)).set i (.c (.bK (0,0) es))) vs:=by
   refine⟨by have:=hargs.1;simpa using this,fun j x hx=> ?_⟩;rw[List.getElem?_set] at hx;by_cases e:i=j
   ·subst e;rw[if_pos rfl] at hx;split at hx
    ·cases hx;refine⟨v,hv0,⟨hd,.tok aQ es,rfl,fun a b e=> ?_⟩,hone⟩;obtain⟨_,rfl⟩:=jD (lab:=none) e;exact⟨Nat.le_refl _,fun _=>rfl⟩
    ·cases hx
   ·rw[if_neg e,List.getElem?_map] at hx
    cases ha:args[j]? with
    |none=>rw[ha] at hx;cases hx
    |some y=>
     rw[ha] at hx;cases hx;obtain⟨u,hu,hr⟩:=hargs.2 j y ha;exact⟨u,hu,Gb (S:=[.tok aQ es]::S) (β:=[v]::β) 1 hr⟩
  refine(h.2 w σ ([v]::β) vs hS' hargs').mono fun e w' ⟨v',r,S1,σ',β',he,hS1,hk1,yM,hr1,hpost⟩=> ?_
  have hO:∀b,Own ([.tok aQ es]::S) ([v]::β) b->Own S β b:=by
   rintro b ⟨⟨l,j⟩,o,hv,h1,h2,h3⟩
   cases l with
   |zero=>
    rw[aZ] at h1 h2
    cases j with
    |zero=>
     cases h1;cases h2;rw[hval,hn] at h3;cases ad<;>simp[owns,blk] at h3
    |succ j=>simp at h1
   |succ l=>rw[bM] at h1 h2;exact⟨(l,j),o,hv,h1,h2,h3⟩
  cases S1 with
  |nil=>
   obtain⟨o',h1,_⟩:=hk1 (0,0) _ rfl;rw[ng] at h1;cases h1
  |cons fr S1=>
   cases β' with
   |nil=>have:=hS1.shape.1;simp at this
   |cons bo bΩ=>
    obtain⟨r',hr',hp'⟩:=hp r fr S1 hpost;refine⟨v',r',S1,σ',bΩ,he,hS1.Gc,hk1.drop 1,⟨yM.size,yM.os,yM.output,fun b hb ho=>yM.far b hb (fun x=>ho (hO b x)),yM.near,fun b hb=>(yM.own b (uS hb)).imp (hO b) id⟩,O9 hr' hr1,hp'⟩
end
attribute [go_sem] aV ay agj VU ret_tsl_0 ahK aex aey abM aeA aeB ahL aeC aeD agk aeE abN ahM aeF aeG aeH agl abO aeK aez aeI aeJ
section
variable {P:Program} {S S':Store} {N:Nat} {s:St}
theorem EJ(S:Store)(β:Hs)(k:Key):Keep S β (aX S k .dead) β:=by
 intro k' o ho;by_cases e:k=k'
 ·subst e;exact⟨.dead,bW _ _ _ _ ho,.inl rfl⟩
 ·exact⟨o,by rw[dR _ _ _ _ e];exact ho,kQ.refl _ _⟩
theorem yj{k k':Key}{o:Obj}(h:aW (aX S k .dead) k'=some o):(k=k'/\o=.dead)\/aW S k'=some o:=by
 by_cases e:k=k'
 ·subst e
  cases hg:aW S k with
  |none=>
   have:∀(S:Store)(k:Key),aW S k=none->aX S k .dead=S:=by
    intro S
    induction S with
    |nil=>intro k _;rfl
    |cons fr S ih=>
     rintro⟨l,j⟩ h
     cases l with
     |zero=>
      rw[aZ] at h;rw[aX,List.set_eq_of_length_le (List.getElem?_eq_none_iff.1 h)]
     |succ l=>rw[bM] at h;rw[aX,ih _ h]
   rw[this S k hg,hg] at h;cases h
  |some y=>
   rw[bW _ _ _ _ hg] at h;cases h;exact .inl ⟨rfl,rfl⟩
 ·rw[dR _ _ _ _ e] at h;exact .inr h
theorem PV(x:Obj):∀(S:Store)(k:Key),(aX S k x).length=S.length
 |[],k=>rfl
 |fr::S,(0,j)=>by rw[aX];simp
 |fr::S,(l+1,j)=>by rw[aX,List.length_cons,PV x S,List.length_cons]
theorem TQ(x:Obj):∀(S:Store)(k:Key)(l:Nat)(fr:List Obj),(aX S k x)[l]? =some fr->∃AL,S[l]? =some AL/\AL.length=fr.length
 |[],k,l,fr,h=>by simp[aX] at h
 |f::S,(0,j),0,fr,h=>by rw[aX] at h;simp at h;subst h;exact⟨f,rfl,by simp⟩
 |f::S,(0,j),l+1,fr,h=>by rw[aX] at h;exact⟨fr,by simpa using h,rfl⟩
 |f::S,(i+1,j),0,fr,h=>by rw[aX] at h;exact⟨fr,by simpa using h,rfl⟩
 |f::S,(i+1,j),l+1,fr,h=>by
  rw[aX] at h;simpa using TQ x S (i,j) l fr (by simpa using h)
theorem abQ{w:World}{σ:Nat->Nat}{β:Hs}(k:Key)(hS:dL w σ S β):dL w σ (aX S k .dead) β:=by
 have hn:dQ w σ w σ:=(Grow.refl hS.live).near;refine⟨fun k' o ho=> ?_,fun k1 k2 o1 o2 h1 h2 b e1 e2 e3 e4 e5 e6=> ?_,⟨by rw[PV];exact hS.shape.1,fun l fr hl=> ?_⟩,hS.live,hS.rH⟩
 ·rcases yj ho with⟨rfl,rfl⟩|ho'
  ·cases hg:aW S k with
   |none=>
    exfalso;have:=EJ S β k;rcases yj (S:=S) (k:=k) (k':=k) ho with⟨_,_⟩|h
    ·
     have hne:aW (aX S k .dead) k=none:=by
      have:∀(S:Store)(k:Key),aW S k=none->aW (aX S k Obj.dead) k=none:=by
       intro S
       induction S with
       |nil=>intro k _;rw[aX,ng]
       |cons fr S ih=>
        rintro⟨l,j⟩ h
        cases l with
        |zero=>
         rw[aZ] at h;rw[aX,aZ,List.set_eq_of_length_le (List.getElem?_eq_none_iff.1 h)];exact h
        |succ l=>rw[bM] at h;rw[aX,bM];exact ih _ h
      exact this S k hg
     rw[hne] at ho;cases ho
    ·rw[hg] at h;cases h
   |some y=>
    obtain⟨h,hh,_⟩:=hS.obj k y hg;exact⟨h,hh,trivial⟩
  ·obtain⟨h,hh,hr⟩:=hS.obj k' o ho';exact⟨h,hh,hr.mono hn ((EJ S β k).drop k'.1) fun b _=>⟨rfl,rfl⟩⟩
 ·rcases yj e1 with⟨_,rfl⟩|G5
  ·cases e3
  ·rcases yj e4 with⟨_,rfl⟩|e4'
   ·cases e6
   ·exact hS.apart k1 k2 o1 o2 h1 h2 b G5 e2 e3 e4' e5 e6
 ·obtain⟨AL,h1,h2⟩:=TQ _ S k l fr hl;obtain⟨gr,h3,h4⟩:=hS.shape.2 l AL h1;exact⟨gr,h3,by omega⟩
def Less(r r':V):Prop:=∀w σ S β v,cB w σ S β r v->cB w σ S β r' v
theorem Less.refl(r:V):Less r r:=fun _ _ _ _ _ h=>h
theorem bJ.kill{f:FuncId}{args:List V}{post post':V->Store->Prop}(k:Key)(h:bJ P f args S post)(hp:∀r S',post r S'->∃r',Less r r'/\(post' r' S'\/post' r' (aX S' k .dead))):bJ P f args S post':=by
 refine⟨h.1,fun w σ β vs hS hv=>(h.2 w σ β vs hS hv).mono fun e w' ⟨v,r,S',σ',β',h1,h2,h3,h4,h5,h6⟩=> ?_⟩;obtain⟨r',hl,hp|hp⟩:=hp r S' h6
 ·exact⟨v,r',S',σ',β',h1,h2,h3,h4,hl _ _ _ _ _ h5,hp⟩
 ·have hkeep:=EJ S' β' k;refine⟨v,r',aX S' k .dead,σ',β',h1,abQ k h2,h3.trans hkeep,⟨h4.size,h4.os,h4.output,h4.far,h4.near,fun b hb=> ?_⟩,hl _ _ _ _ _ (h5.mono (Grow.refl h2.live).near hkeep),hp⟩;obtain⟨k',o,hv,e1,e2,e3⟩:=hb;rcases yj e1 with⟨_,rfl⟩|G5
  ·cases e3
  ·exact h4.own b ⟨k',o,hv,G5,e2,e3⟩
theorem ak{x y:Obj}:∀(S:Store)(k:Key),aX (aX S k x) k y=aX S k y
 |[],k=>rfl
 |fr::S,(0,j)=>by rw[aX,aX,aX];simp
 |fr::S,(l+1,j)=>by rw[aX,aX,aX,ak S]
theorem AP{x:Obj}:∀(S:Store)(k:Key),aW S k=some x->aX S k x=S
 |[],k,_=>rfl
 |fr::S,(0,j),h=>by
  rw[aZ] at h;rw[aX];congr 1
  exact List.ext_getElem? fun i=>by
   rw[List.getElem?_set];split
   ·rename_i e;subst e;obtain⟨h1,h2⟩:=List.getElem?_eq_some_iff.1 h;simp[h1,h2]
   ·rfl
 |fr::S,(l+1,j),h=>by rw[bM] at h;rw[aX,AP S _ h]
def tT:List Bool->List V->List V
 |true::m,v::vs=>v::tT m vs
 |false::m,v::vs=>v.rU::tT m vs
 |[],vs=>vs.map V.rU
 |_,[]=>[]
theorem Ip:∀(m:List Bool)(vs:List V),vs.length=(tT m vs).length
 |true::m,v::vs=>by rw[tT,List.length_cons,List.length_cons,Ip m vs]
 |false::m,v::vs=>by rw[tT,List.length_cons,List.length_cons,Ip m vs]
 |[],vs=>by simp[tT]
 |true::m,[]=>rfl
 |false::m,[]=>rfl
theorem LA:∀(m:List Bool)(vs:List V)(j:Nat)(x y:V),vs[j]? =some x->(tT m vs)[j]? =some y->y=x\/y=x.rU
 |true::m,v::vs,0,x,y,h1,h2=>by rw[tT] at h2;cases h1;cases h2;exact .inl rfl
 |false::m,v::vs,0,x,y,h1,h2=>by rw[tT] at h2;cases h1;cases h2;exact .inr rfl
 |true::m,v::vs,j+1,x,y,h1,h2=>by rw[tT] at h2;exact LA m vs j x y h1 h2
 |false::m,v::vs,j+1,x,y,h1,h2=>by rw[tT] at h2;exact LA m vs j x y h1 h2
 |[],vs,j,x,y,h1,h2=>by rw[tT,List.getElem?_map,h1] at h2;cases h2;exact .inr rfl
 |true::m,[],j,x,y,h1,h2=>by simp at h1
 |false::m,[],j,x,y,h1,h2=>by simp at h1
theorem bJ.tT(m:List Bool){f:FuncId}{args:List V}{post:V->Store->Prop}(h:bJ P f (Go.Ab.tT m args) S post):bJ P f args S post:=
 h.weaken (Ip m args) fun j x y hx hy w σ β v hr=>by
  rcases LA m args j x y hx hy with e|e
  ·rw[e];exact hr
  ·rw[e];exact Pn hr
theorem cZ(m:List Bool){dr:Option Nat}{f:FuncId}{args:List V}{dst:Option Nat}{K:St->Prop}{r:V}{S1:Store}(hm:adG dr=true)(h:bJ P f (tT m args) s.st (fun r' S'=>r'=r/\S'=S1))(hK:K (St.put ⟨s.tm,S1⟩ dst r)):gH P dr f args s dst K:=
 aT hm (h.tT m) hK
end
theorem aJ.less{P:Program}{f:FuncId}{args:List V}{r r':V}(h:aJ P f args r)(hl:Less r r'):aJ P f args r':=
 fun S=>(h S).kill (0,0) fun r1 S' e=>⟨r',by rw[e.1];exact hl,.inl ⟨rfl,e.2⟩⟩
section
variable {P:Program} {S:Store}
def iO(n:Nat)(caps:List (Key×Nat)):List (Key×Nat):=caps.map fun y=>(yU n y.1,y.2)
theorem VW{n:Nat}:iO n []=[]:=rfl
theorem Sr{n l j off:Nat}{caps:List (Key×Nat)}:iO n (((l,j),off)::caps)=((n+l,j),off)::iO n caps:=rfl
theorem MB{m n:Nat}{caps:List (Key×Nat)}:iO m (iO n caps)=iO (m+n) caps:=by
 unfold iO;rw[List.map_map];refine List.map_congr_left fun y _=> ?_;simp only[Function.comp,yU,Prod.mk.injEq,and_true];omega
theorem Sv{n m g:Nat}{caps:List (Key×Nat)}:C.refs n (.fn g (iO (m+1) caps))=true:=by
 simp only[C.refs,iO,List.all_map,List.all_eq_true];intro x _
 have h:0<m+1+x.1.1:=by omega
 simp[Function.comp,om,yU,h]
theorem PW{n:Nat}{caps:List (Key×Nat)}:((iO 1 caps).all fun x=>om n x.fst)=true:=Sv (m:=0) (g:=0)
theorem PX:∀(F S:Store)(l j:Nat),aW (F++S) (F.length+l,j)=aW S (l,j)
 |[],S,l,j=>by simp
 |fr::F,S,l,j=>by
  rw[List.cons_append,List.length_cons,show F.length+1+l=(F.length+l)+1 from by omega,bM,PX F S l j]
theorem PY(x:Obj):∀(F S:Store)(l j:Nat),aX (F++S) (F.length+l,j) x=F++aX S (l,j) x
 |[],S,l,j=>by simp
 |fr::F,S,l,j=>by
  rw[List.cons_append,List.length_cons,show F.length+1+l=(F.length+l)+1 from by omega,aX,PY x F S l j,List.cons_append]
theorem YT{F S:Store}{j:Nat}:aW (F++S) (F.length,j)=aW S (0,j):=PX F S 0 j
theorem YU{F S:Store}{j:Nat}{x:Obj}:aX (F++S) (F.length,j) x=F++aX S (0,j) x:=PY x F S 0 j
attribute [go_sem] YT YU VW Sr
def og(P:Program)(g:Nat)(caps:List (Key×Nat))(S:Store)(xs:List V)(r:V):Prop:=
 ∀F:Store,bJ P g (xs++zS (iO F.length caps)) (F++S) (fun r' S'=>r'=r/\S'=F++S)
theorem og.push{g:Nat}{caps:List (Key×Nat)}{xs:List V}{r:V}(h:og P g caps S xs r)(fr:List Obj):og P g (iO 1 caps) (fr::S) xs r:=fun F=>by
 have:=h (F++[fr]);rw[MB];simpa using this
theorem og.LB{g:Nat}{xs:List V}{r:V}(h:aJ P g xs r):og P g [] S xs r:=fun F=>by
 have:=h (F++S);simpa [iO,zS] using this
def Dj(P:Program)(g:Nat)(caps:List (Key×Nat)){α X:Type}(st:α->Store)(I:Nat->α->Prop)(f:α->X->α)(xv:X->V)(ok:X->Prop):Prop:=
 ∀n a u,I (n+1) a->ok u->I n (f a u)/\∀F:Store,bJ P g (xv u::zS (iO F.length caps)) (F++st a) (fun r' S'=>r'=.eU []/\S'=F++st (f a u))
theorem Dj.push{g:Nat}{caps:List (Key×Nat)}{α X:Type}{st:α->Store}{I:Nat->α->Prop}{f:α->X->α}{xv:X->V}{ok:X->Prop}(h:Dj P g caps st I f xv ok)(fr:List Obj):
 Dj P g (iO 1 caps) (fun a=>fr::st a) I f xv ok:=fun n a u ha hu=>⟨(h n a u ha hu).1,fun F=>by
 have:=(h n a u ha hu).2 (F++[fr]);rw[MB]
 simpa using this⟩
theorem AQ{N:Nat}{c:Code}{Q:Exit->St->Prop}{tm:List (Nat×V)}{own:List Obj}{Ω:Store}(j i aQ:Nat)(es:List (List D))(cs:List C)(hj:own[j]? =some (.box cs))(hi:cs[i]? =some (.bE es))(hes:∀e∈es,e.length=aQ)
 (h:AW P N c Q ⟨tm,(own.set j (.box (cs.set i (.bK (0,own.length) es)))++[.tok aQ es])::Ω⟩):AW P N c Q ⟨tm,own::Ω⟩:=by
 refine kD h fun a w σ β hR=> ?_;obtain⟨bo,bΩ,rfl,hlen⟩:=frames hR;have hjl:=(List.getElem?_eq_some_iff.1 hj).1
 have hg0:aW (own::Ω) (0,j)=some (.box cs):=by rw[aZ];exact hj
 obtain⟨hb,GZ,hr⟩:=hR.S.obj (0,j) _ hg0;obtain⟨b,cv,ty,rfl,hbc,hσ,hcs⟩:=hr;have hcs:eX w σ (own::Ω) (bo::bΩ) cs cv.toList:=hcs;obtain⟨v,hv,⟨hd,ad,n,hval⟩,hone⟩:=hcs.2 i _ hi
 have hn:n=es.length:=by rw[hval] at hd;cases hd<;>rfl
 have hg:Grow w σ w σ:=Grow.refl hR.S.live
 obtain⟨hS',hk,hst⟩:=hR.S.push (o:=.tok aQ es) (h:=v) hg hlen ⟨hd,hes,ad,n,by rw[hval,hn],by omega,.inl hn⟩ (fun b hb=>by
  rw[hval,hn] at hb
  cases ad<;>simp[owns,blk] at hb)
 have hk1:aW ((own++[.tok aQ es])::Ω) (0,j)=some (.box cs):=iW _ _ _ _ _ hg0;have D8:aW ((bo++[v])::bΩ) (0,j)=some (.pointer (some ⟨b,0,none⟩)):=iW _ _ _ _ _ GZ;have hko:kQ (.box cs) (some (Value.pointer (some ⟨b,0,none⟩))) (.box (cs.set i (.bK (0,own.length) es))) (some (Value.pointer (some ⟨b,0,none⟩))):=.inr ⟨⟨_,rfl⟩,rfl⟩
 have hK:Keep ((own++[.tok aQ es])::Ω) ((bo++[v])::bΩ) (aX ((own++[.tok aQ es])::Ω) (0,j) (.box (cs.set i (.bK (0,own.length) es)))) (aX ((bo++[v])::bΩ) (0,j) (.pointer (some ⟨b,0,none⟩))):=by
  intro k1 o1 e1;by_cases e:k1=(0,j)
  ·subst e;rw[hk1] at e1;cases e1;exact⟨_,bW _ _ _ _ hk1,by rw[D8,bW _ _ _ _ D8];exact hko⟩
  ·exact⟨o1,(dR _ _ _ _ (Ne.symm e)).trans e1,by rw[dR _ _ _ _ (Ne.symm e)];exact .refl _ _⟩
 have hne:(0,own.length)≠(0,j):=fun e=>by injection e with _ e;omega
 obtain⟨hS2,hk2,vT⟩:=hS'.set (w':=w) (σ':=σ) (o':=.box (cs.set i (.bK (0,own.length) es))) (h':=.pointer (some ⟨b,0,none⟩)) hk1 D8 (Nat.le_refl _) rfl rfl (dQ.refl _ _) hS'.live (fun _ _ _=>⟨rfl,rfl⟩) hko
  ⟨b,cv,ty,rfl,hbc,hσ,by
    refine⟨by rw[List.length_set];exact hcs.1,fun m x hm=> ?_⟩;rw[List.getElem?_set] at hm;by_cases e:i=m
    ·subst e;rw[if_pos rfl] at hm;split at hm
     ·cases hm;refine⟨v,hv,⟨hd,.tok aQ es,?_,fun a1 b1 e1=> ?_⟩,hone⟩
      ·show aW (aX _ (0,j) _) (0,own.length)=_;rw[dR _ _ _ _ (Ne.symm hne),bG]
      ·obtain⟨_,rfl⟩:=jD (lab:=none) e1;refine⟨Nat.le_refl _,fun _=> ?_⟩;show aW (aX _ (0,j) _) (0,own.length)=_;rw[dR _ _ _ _ (Ne.symm hne),<-hlen,bG]
     ·cases hm
    ·rw[if_neg e] at hm;obtain⟨u,hu,hc,ho⟩:=hcs.2 m x hm
     exact⟨u,hu,(hc.mono (dQ.refl _ _) hk).mono (dQ.refl _ _) hK,ho⟩⟩ (fun _ e=>.inl e)
 have est:aX ((own++[.tok aQ es])::Ω) (0,j) (.box (cs.set i (.bK (0,own.length) es)))=(own.set j (.box (cs.set i (.bK (0,own.length) es)))++[.tok aQ es])::Ω:=by
  rw[aX,List.set_append_left _ _ hjl]
 rw[est] at hS2 hk2 vT
 exact⟨σ,_,⟨hR.size,hR.defers,hS2,fun u=>((hR.T u).mono (dQ.refl _ _) hk).mono (dQ.refl _ _) hk2⟩,hst.trans vT,by
  have:=hk.trans hk2
  exact this.tail⟩
end
inductive D.Fit:D->Prop
 |b (x):Fit (.b x)
 |i (k n):Fit (.i k n)
 |s (l) (h:l.length<=9223372036854775807):Fit (.s l)
 |sl (es) (h:es.length<=9223372036854775807) (hh:∀e∈es,∀d∈e,Fit d):Fit (.sl es)
 |o (v):Fit (.o v)
def zV(cs:List D):Prop:=∀d∈cs,d.Fit
theorem zW:zV []:=fun d h=>by cases h
theorem AR{d:D}{ds:List D}:zV (d::ds)<->d.Fit/\zV ds:=by simp[zV]
theorem Sw{a b:List D}:zV (a++b)<->zV a/\zV b:=by
 simp only[zV,List.mem_append];exact⟨fun h=>⟨fun d hd=>h d (.inl hd),fun d hd=>h d (.inr hd)⟩,fun h d hd=>hd.elim (h.1 d) (h.2 d)⟩
def WTF(P:Program)(W:TypeId->List D->Prop):List Field->List D->Prop
 |[],ds=>ds=[]
 |f::fs,ds=>∃a b,ds=a++b/\a.length=P.cellsOf f.type/\W f.type a/\WTF P W fs b
def WT(P:Program):Nat->TypeId->List D->Prop
 |0,_,_=>False
 |n+1,t,ds=>
  match P.underlying t with
  |some .bool=>∃b,ds=[.b b]
  |some (.int k)=>∃x,ds=[.i k x]/\(Lit.int k x).wf=true
  |some .string=>∃l,ds=[.s l]/\l.length<=9223372036854775807
  |some (.slice e)=>∃es,ds=[.sl es]/\es.length<=9223372036854775807/\∀x∈es,x.length=P.cellsOf e/\WT P n e x
  |some (.struct fs)=>WTF P (WT P n) fs.toList ds
  |_=>False
def zh(P:Program):List Field->Nat->Nat->Bool
 |[],a,b=>a==b
 |f::fs,a,b=>f.offset==a&&zh P fs (a+P.cellsOf f.type) b
def LC(P:Program)(L:List TypeId):Bool:=
 L.all fun t=>match P.underlying t with
  |some .bool|some (.int _)|some .string=>P.cellsOf t==1
  |some (.slice e)=>P.cellsOf t==1&&L.contains e&&decide (0<P.cellsOf e)
  |some (.struct fs)=>zh P fs.toList 0 (P.cellsOf t)&&fs.toList.all fun f=>L.contains f.type
  |_=>false
def jh(w:World)(b:Nat):Nat:=match w.heap[b]? with
 |some (.cells c _ _)=>c.size
 |_=>0
def qF(w:World)(ds:List D)(vs:List Value):Prop:=ds.length=vs.length/\∀(j:Nat)(d:D),ds[j]? =some d->∃v,vs[j]? =some v/\cu w (jh w) d v/\v.oneCell'=true
theorem qF.append{w:World}{a b:List D}{xs ys:List Value}(h1:qF w a xs)(h2:qF w b ys):qF w (a++b) (xs++ys):=by
 refine⟨by simp[h1.1,h2.1],fun j d hj=> ?_⟩;rw[List.getElem?_append] at hj ⊢;have:=h1.1;split at hj
 ·rw[if_pos (by omega)];exact h1.2 j d hj
 ·rw[if_neg (by omega),<-h1.1];exact h2.2 _ d hj
theorem qF.one{w:World}{d:D}{v:Value}(h:cu w (jh w) d v)(h1:v.oneCell'=true):qF w [d] [v]:=by
 refine⟨rfl,fun j x hj=> ?_⟩
 cases j with
 |zero=>cases hj;exact⟨v,rfl,h,h1⟩
 |succ j=>simp at hj
theorem PZ{α β:Type}(f:α->Option β):∀(l:List α)(ys:List β),l.mapM f=some ys->ys.length=l.length/\∀(j:Nat)(x:α),l[j]? =some x->∃y,f x=some y/\ys[j]? =some y
 |[],ys,h=>by
  simp at h;subst h;exact⟨rfl,fun j x hj=>by simp at hj⟩
 |a::l,ys,h=>by
  rw[List.mapM_cons] at h
  cases ha:f a with
  |none=>rw[ha] at h;cases h
  |some y=>
   cases hl:l.mapM f with
   |none=>rw[ha,hl] at h;cases h
   |some zs=>
    rw[ha,hl] at h;cases h;obtain⟨h1,h2⟩:=PZ f l zs hl;refine⟨by simp[h1],fun j x hj=> ?_⟩
    cases j with
    |zero=>cases hj;exact⟨y,ha,rfl⟩
    |succ j=>exact h2 j x hj
section
variable {H:Type} {enc:TypeId×Value->H} {P:Program} {w:World} {L:List TypeId}
theorem Dk{a:Addr}{n:Nat}{vs:List Value}(hn:0<n)(h:w.cells? 0 a n=some vs):a.spot=none/\vs.length=n/\∃c t fz,w.heap[a.block]? =some (.cells c t fz)/\∀j,j<n->∃v,vs[j]? =some v/\c[a.off+j]? =some v:=by
 unfold World.cells? at h;rw[if_pos (Nat.zero_le _)] at h;obtain⟨h1,h2⟩:=PZ _ _ _ h;rw[List.length_range] at h1;obtain⟨v0,hv0,_⟩:=h2 0 0 (by simp[hn])
 have Og:a.add 0=a:=by simp[Addr.add]
 rw[Og] at hv0;unfold World.cell? at hv0
 cases hb:w.heap[a.block]? with
 |none=>rw[hb] at hv0;cases hv0
 |some ob=>
  rw[hb] at hv0
  cases ob with
  |map _ _=>cases hv0
  |cells c t fz=>
   have hs:a.spot=none:=by
    cases hsp:a.spot with
    |none=>rfl
    |some x=>rw[hsp] at hv0;simp at hv0
   refine⟨hs,h1,c,t,fz,rfl,fun j hj=> ?_⟩;obtain⟨v,hv,hvs⟩:=h2 j j (by simp[hj]);refine⟨v,hvs,?_⟩;unfold World.cell? at hv;by_cases hj0:j=0
   ·subst hj0;rw[Og,hb] at hv;simp[hs] at hv;simpa using hv
   ·simp[Addr.add,hj0,hb] at hv;exact hv
  |_=>cases hv0
theorem He{α:Type}{p:Nat->α->Prop}:∀n:Nat,(∀i,i<n->∃x,p i x)->∃l:List α,l.length=n/\∀(i:Nat)(x:α),l[i]? =some x->p i x
 |0,_=>⟨[],rfl,fun i x h=>by simp at h⟩
 |n+1,h=>by
  obtain⟨l,hl,hp⟩:=He n fun i hi=>h i (by omega);obtain⟨x,hx⟩:=h n (by omega);refine⟨l++[x],by simp[hl],fun i y hy=> ?_⟩;rw[List.getElem?_append] at hy;split at hy
  ·exact hp i y hy
  ·rename_i hlt
   have hi:i-l.length<1:=by
    have:=(List.getElem?_eq_some_iff.1 hy).1;simpa using this
   have:i=n:=by omega
   subst this;rw[show i-l.length=0 from by omega] at hy;cases hy;exact hx
theorem YV(hc:LC P L=true){t:TypeId}(ht:t∈L):(match P.underlying t with
 |some .bool|some (.int _)|some .string=>P.cellsOf t==1
 |some (.slice e)=>P.cellsOf t==1&&L.contains e&&decide (0<P.cellsOf e)
 |some (.struct fs)=>zh P fs.toList 0 (P.cellsOf t)&&fs.toList.all fun f=>L.contains f.type
 |_=>false)=true:=List.all_eq_true.1 hc t ht
theorem Sy{n:Nat}{fs:List Field}{cs:List Value}:∀(off:Nat),off<=cs.length->zh P fs off cs.length=true->
 (∀f∈fs,∃ds,WT P n f.type ds/\qF w ds ((cs.drop f.offset).take (P.cellsOf f.type)))->∃ds,WTF P (WT P n) fs ds/\qF w ds (cs.drop off):=by
 induction fs with
 |nil=>
  intro off _ ht _
  have:off=cs.length:=by simpa [zh] using ht
  exact⟨[],rfl,by simp[this,qF]⟩
 |cons f fs ih=>
  intro off ho ht h;simp only[zh,Bool.and_eq_true,beq_iff_eq] at ht;obtain⟨a,ha1,ha2⟩:=h f (by simp)
  have hle:∀(fs:List Field)(o:Nat),zh P fs o cs.length=true->o<=cs.length:=by
   intro fs
   induction fs with
   |nil=>intro o h;have:o=cs.length:=by simpa [zh] using h
         omega
   |cons g gs ih=>intro o h;simp only[zh,Bool.and_eq_true] at h;have:=ih _ h.2;omega
  have hle':=hle fs _ ht.2;obtain⟨b,hb1,hb2⟩:=ih (off+P.cellsOf f.type) hle' ht.2 fun g hg=>h g (by simp[hg]);rw[ht.1] at ha2;refine⟨a++b,⟨a,b,rfl,?_,ha1,hb1⟩,?_⟩
  ·rw[ha2.1];simp;omega
  ·have:=ha2.append hb2;rw[<-List.drop_drop,List.take_append_drop] at this;exact this
theorem EK(hc:LC P L=true){sp:Nat->Bool}{held:Bool}:∀(fuel:Nat)(t:TypeId)(cs:List Value)(x:DataW H×List MemPlace),t∈L->
 DataW.trod enc P w 0 sp held fuel t cs=some x->∃ds,WT P fuel t ds/\qF w ds cs
 |0,t,cs,x,_,h=>by simp[DataW.trod] at h
 |n+1,t,cs,x,ht,h=>by
  have hcl:=YV hc ht
  cases hu:P.underlying t with
  |none=>rw[hu] at hcl;cases hcl
  |some u=>
   rw[hu] at hcl
   cases u with
   |bool=>
    obtain⟨b,rfl,_⟩:=DataW.trod_bool hu h;exact⟨[.b b],by simp only[WT,hu];exact⟨b,rfl⟩,qF.one (.b b) rfl⟩
   |int k=>
    obtain⟨m,rfl,_,hw⟩:=DataW.trod_int hu h;exact⟨[.i k m],by simp only[WT,hu];exact⟨m,rfl,hw⟩,qF.one (.i k m) rfl⟩
   |string=>
    obtain⟨s,rfl,_,hs⟩:=DataW.trod_string hu h
    have hl:s.data.toList.length<=9223372036854775807:=by
     have h1:s.data.toList.length=s.size:=by rw[Array.length_toList];rfl
     rw[h1];exact hs
    refine⟨[.s s.data.toList],?_,qF.one ?_ rfl⟩
    ·simp only[WT,hu];exact⟨_,rfl,hl⟩
    ·exact .s s.data.toList
   |slice e=>
    simp only[Bool.and_eq_true,beq_iff_eq,decide_eq_true_eq,List.contains_iff_mem] at hcl;obtain⟨⟨h1,he⟩,hpos⟩:=hcl;rcases DataW.trod_slice hu h with⟨rfl,_⟩|⟨a,len,cap,elems,rest,m,hm,rfl,_,_,hlc,hcm,hel,hget,_,_⟩
    ·exact⟨[.sl []],by simp only[WT,hu];exact⟨[],rfl,by simp,fun x hx=>by cases hx⟩,qF.one (.nil _ _) rfl⟩
    ·cases hm
     have hall:∀i,i<len->∃ds:List D,ds.length=P.cellsOf e/\WT P n e ds/\∃vs,w.cells? 0 (a.add (i*P.cellsOf e)) (P.cellsOf e)=some vs/\qF w ds vs:=by
      intro i hi;have hg:=hget i hi
      cases hcs:w.cells? 0 (a.add (i*P.cellsOf e)) (P.cellsOf e) with
      |none=>
       rw[hcs] at hg
       have:i<elems.length:=by omega
       rw[List.getElem?_eq_getElem this] at hg;cases hg
      |some vs=>
       rw[hcs] at hg
       have hlt:i<elems.length:=by omega
       rw[List.getElem?_eq_getElem hlt] at hg;obtain⟨ds,hd1,hd2⟩:=EK hc n e vs _ he hg;have hv:=(Dk hpos hcs).2.1;exact⟨ds,by rw[hd2.1,hv],hd1,vs,rfl,hd2⟩
     obtain⟨es,hes,hp⟩:=He len hall
     have hwt:WT P (n+1) t [.sl es]:=by
      simp only[WT,hu]
      refine⟨es,rfl,by have:cap<=9223372036854775807:=hcm
                       omega,fun x hx=> ?_⟩
      obtain⟨i,hi⟩:=List.getElem?_of_mem hx;exact⟨(hp i x hi).1,(hp i x hi).2.1⟩
     refine⟨[.sl es],hwt,?_⟩
     cases CX:es with
     |nil=>
      have h0:len=0:=by rw[<-hes,CX];rfl
      subst h0;exact qF.one (.nil _ _) rfl
     |cons e0 es0=>
      have ahN:0<len:=by rw[<-hes,CX];simp
      have hlen:∀x∈es,x.length=P.cellsOf e:=fun x hx=>by
       obtain⟨i,hi⟩:=List.getElem?_of_mem hx;exact(hp i x hi).1
      obtain⟨ds0,_,_,vs0,agm,_⟩:=hall 0 ahN
      have Og:a.add (0*P.cellsOf e)=a:=by simp[Addr.add]
      rw[Og] at agm;obtain⟨hsp,_,c,tt,fz,hblk,_⟩:=Dk hpos agm
      have hcell:∀i r,i<len->r<P.cellsOf e->∃(x:List D) (v:Value) (d:D),es[i]? =some x/\x[r]? =some d/\c[a.off+(i*P.cellsOf e+r)]? =some v/\cu w (jh w) d v:=by
       intro i r hi hr
       have hlt:i<es.length:=by omega
       obtain⟨hx1,hx2,vs,hvs,hrep⟩:=hp i es[i] (List.getElem?_eq_getElem hlt);obtain⟨_,hvl,c',t',OQ,hblk',hcc⟩:=Dk hpos hvs
       have hb':(a.add (i*P.cellsOf e)).block=a.block:=by unfold Addr.add;split<;>rfl
       have ho':(a.add (i*P.cellsOf e)).off=a.off+i*P.cellsOf e:=by unfold Addr.add;split<;>simp_all
       rw[hb',hblk] at hblk';cases hblk';obtain⟨v,hv1,hv2⟩:=hcc r hr
       have hdr:r<es[i].length:=by omega
       obtain⟨v',hv',hd',_⟩:=hrep.2 r es[i][r] (List.getElem?_eq_getElem hdr);rw[hv1] at hv';cases hv';refine⟨es[i],v,es[i][r],List.getElem?_eq_getElem hlt,List.getElem?_eq_getElem hdr,?_,hd'⟩;rw[ho'] at hv2;rw[<-Nat.add_assoc];exact hv2
      have hbound:a.off+len*P.cellsOf e<=c.size:=by
       obtain⟨_,v,_,_,_,hv,_⟩:=hcell (len-1) (P.cellsOf e-1) (by omega) (by omega);have:=(Array.getElem?_eq_some_iff.1 hv).1
       have e1:(len-1)*P.cellsOf e+P.cellsOf e=len*P.cellsOf e:=by
        rw[<-Nat.succ_mul];congr 1;omega
       omega
      have key:cu w (jh w) (.sl es) (.slice (some ⟨a.block,a.off,none⟩) es.length cap):=by
       refine .sl a.block a.off cap (P.cellsOf e) es (fun j=>(c[a.off+j]?).getD undef) c tt fz (by omega) hlen hblk ?_ (fun j hj=> ?_) (fun j d hj=> ?_)
       ·unfold jh;rw[hblk,hes];exact hbound
       ·have:a.off+j<c.size:=by rw[hes] at hj;omega
        rw[Array.getElem?_eq_getElem this];rfl
       ·have hfl:es.flatten.length=es.length*P.cellsOf e:=gN es _ hlen
        have hjl:j<es.length*P.cellsOf e:=by rw[<-hfl];exact(List.getElem?_eq_some_iff.1 hj).1
        have hi:j/P.cellsOf e<len:=by rw[<-hes];exact(Nat.div_lt_iff_lt_mul hpos).2 hjl
        obtain⟨x,v,d',hx,hd',hv,hr⟩:=hcell (j/P.cellsOf e) (j % P.cellsOf e) hi (Nat.mod_lt _ hpos)
        have hlt':j/P.cellsOf e<es.length:=by omega
        have hfg:=flat_get es (P.cellsOf e) hlen (j/P.cellsOf e) (j % P.cellsOf e) hlt' (Nat.mod_lt _ hpos)
        have hj':j/P.cellsOf e*P.cellsOf e+j % P.cellsOf e=j:=by rw[Nat.mul_comm];exact Nat.div_add_mod j _
        rw[hj',hj] at hfg;rw[List.getElem?_eq_getElem hlt'] at hx;cases hx;rw[hd'] at hfg;cases hfg;rw[hj'] at hv;rw[hv];exact hr
      rw[<-CX];refine qF.one ?_ rfl
      have ha:a=⟨a.block,a.off,none⟩:=by cases a;simp at hsp;simp[hsp]
      rw[ha,<-hes];exact key
   |struct fs=>
    simp only[Bool.and_eq_true] at hcl;obtain⟨htl,hfs⟩:=hcl;obtain⟨xs,m,hm,rfl,hlen,hxs,aiW⟩:=DataW.trod_struct hu h;cases hm;rw[<-hlen] at htl
    obtain⟨ds,h1,h2⟩:=Sy (w:=w) (n:=n) (cs:=cs) 0 (Nat.zero_le _) htl fun f hf=>by
     obtain⟨i,hi⟩:=List.getElem?_of_mem hf
     have hi':fs[i]? =some f:=by simpa using hi
     have hg:=aiW i f hi'
     have hlt:i<xs.length:=by
      rw[hxs];exact(Array.getElem?_eq_some_iff.1 hi').1
     rw[List.getElem?_eq_getElem hlt] at hg
     have hfL:f.type∈L:=by
      have:=List.all_eq_true.1 hfs f hf;simpa using this
     exact EK hc n f.type _ _ hfL hg
    refine⟨ds,by simp only[WT,hu];exact h1,?_⟩;rw[List.drop_zero] at h2;exact h2
   |_=>cases hcl
end
open Go.ChangeShapes Go.WideShapes Go.ChangeAt Go.RowKit
section
variable {H:Type} {enc:TypeId×Value->H} {P:Program} {W W':World} {L:List TypeId} {t:TypeId} {v:Value} {base:Nat}
theorem abR{d:D}(hv:v.cells.toList=[v])(hL:qF W [d] v.cells.toList):cB W (jh W) [] [] (.c (.d d)) v:=by
 obtain⟨u,h1,h2,h3⟩:=hL.2 0 d rfl;rw[hv] at h1;cases h1;exact⟨h2,h3⟩
theorem YW{e:TypeId}{d:D}(ht:P.underlying t=some (.slice e))(hok:Value.okWide P W .any base t v)(hL:qF W [d] v.cells.toList):cB W (jh W) [] [] (.c (.d d)) v:=by
 obtain⟨a,n,m,rfl⟩:=okWide_slice ht hok;exact abR rfl hL
theorem YX:nZ W (jh W) [] [] [] []:=⟨rfl,fun j x h=>by simp at h⟩
theorem VX{x:V}{xs:List V}{vs:List Value}(h1:cB W (jh W) [] [] x v)(h2:nZ W (jh W) [] [] xs vs):nZ W (jh W) [] [] (x::xs) (v::vs):=by
 refine⟨by simp[h2.1],fun j y hj=> ?_⟩
 cases j with
 |zero=>cases hj;exact⟨v,rfl,h1⟩
 |succ j=>exact h2.2 j y hj
theorem abS(W:World)(hg:Br W (jh W)):dL W (jh W) [] [] where
 rH:=hg
 obj:=fun k o h=>by rw[ng] at h;cases h
 apart:=fun k k' o o' h h' b h1=>by rw[ng] at h1;cases h1
 shape:=⟨rfl,fun l fr h=>by simp at h⟩
 live:=fun b=>by
  by_cases h:b<W.heap.size
  ·exact .inl h
  ·right;unfold jh;rw[Array.getElem?_eq_none (by omega)]
theorem agn{b:Nat}:¬Own [] [] b:=fun⟨k,o,h,h1,_⟩=>by rw[ng] at h1;cases h1
theorem D9(hl:laidOutB P=true)(hsame:∀b,b<W.heap.size->W'.heap[b]? =W.heap[b]?)(sp:Nat->Bool):∀(ts:List TypeId)(vs:List Value)(ds:List (DataW H))(ps:List MemPlace),
 (ts.all fun t=>P.readableRec t&&decide (t<P.types.size))=true->(∀p∈ps,p.block<W.heap.size/\sp p.block=true)->
   DataW.TrodAll enc P W 0 (fun _=>true) true ts vs ds ps->DataW.TrodAll enc P W' 0 sp true ts vs ds ps
 |[],[],[],ps,_,_,h=>h
 |t::ts,v::vs,d::ds,ps,hr,hlt,h=>by
  simp only[List.all_cons,Bool.and_eq_true,decide_eq_true_eq] at hr;obtain⟨p,q,h1,h2,rfl⟩:=h;refine⟨p,q,WideElems.Trod_stays hl hr.1.1 hr.1.2 h1 (fun x hx=> ?_) (fun x hx=>(hlt x (by simp[hx])).2),D9 hl hsame sp ts vs ds q hr.2 (fun x hx=>hlt x (by simp[hx])) h2,rfl⟩;have hb:=(hlt x (by simp[hx])).1
  cases x with
  |cell b o=>exact World.cell?_of_block (w:=W) (hsame b hb)
  |map b=>exact hsame b hb
 |[],[],_::_,ps,_,_,h=>h.elim
 |[],_::_,_,ps,_,_,h=>h.elim
 |_::_,[],_,ps,_,_,h=>h.elim
 |_::_,_::_,[],ps,_,_,h=>h.elim
theorem abT{f:FuncId}{fn:Func}{s:ChangeSpec}{args:Array Value}{ds gs:List (DataW H)}{before:List MemPlace}{vs:List V}{tb:TypeId}(hl:laidOutB P=true)
 (hr:(fn.params.toList.all fun t=>P.readableRec t&&decide (t<P.types.size))=true)(hvars:s.vars=[])(hres:fn.resultTypes= #[tb])(htb:P.underlying tb=some .bool)
 (hs1:(s.fn H (ds++gs)).results=[.lit (.bool true)])(hs2:(s.fn H (ds++gs)).args=ds)(hs3:(s.fn H (ds++gs)).vars=[])
 (hW:DataW.Whole enc P fn.params.toList s.vars false W args.toList ds gs before)(hargs:nZ W (jh W) [] [] vs args.toList)
 (hcall:bJ P f vs [] fun r _=>r=.c (.d (.b true)))(ahO:Br W (jh W):=by(intro g p hm;exact absurd hm List.not_mem_nil)):
 Calls P f args W fun e W'=>∃v,e=.returned v/\s.post enc P fn false true false false W args v W':=by
 have hc:=hcall.2 W (jh W) [] args.toList (abS W ahO) hargs
 have e1:args.toList.toArray=args:=by simp
 rw[e1] at hc;refine hc.mono fun e W' ⟨v,r,S',σ',β',he,hS',hk,hst,hv,hp⟩=> ?_;subst hp;obtain⟨hv,_⟩:=hv;cases hv;refine⟨_,he,?_⟩;have hsame:∀b,b<W.heap.size->W'.heap[b]? =W.heap[b]? :=fun b hb=>(hst.far b hb agn).1;have hlt:=fun p hp=>hW.lt p hp;have hW0:=hW;obtain⟨pa,q,hA,hV,rfl,hz,hn⟩:=hW;rw[hvars] at hV
 have hq:gs=[]/\q=[]:=by
  obtain⟨h1,h2⟩:=trodVars_none hV;exact⟨h1,h2⟩
 obtain⟨rfl,rfl⟩:=hq
 rw[List.append_nil] at *
 refine⟨ds,[],pa,[],pa,[],?_,?_,?_,?_,?_,fun h=>by cases h⟩
 ·simpa using hW0
 ·rw[List.append_nil,hs1,hres];exact trodAll_cons_mk (shut_bool htb _) trodAll_mk0
 ·rw[List.append_nil,hs2];exact D9 hl hsame _ _ _ _ _ hr (fun p hp=>⟨hlt p hp,by simpa using hlt p hp⟩) hA
 ·rw[List.append_nil,hs3,hvars];rfl
 ·refine⟨hst.os,hst.output,fun i hi=> ?_⟩;rw[hsame i hi];split<;>simp_all
end
mutual
def D.sz:D->Nat
 | .s l=>l.length
 | .sl es=>es.length+bB es
 | .b _=>0
 | .i _ _=>0
 | .o _=>0
 | .ol _ es=>es.length+bB es
def bL:List D->Nat
 |[]=>0
 |d::ds=>d.sz+bL ds
def bB:List (List D)->Nat
 |[]=>0
 |r::rs=>bL r+bB rs
end
theorem bZ:∀(a b:List D),bL (a++b)=bL a+bL b
 |[],b=>by simp[bL]
 |d::ds,b=>by rw[List.cons_append,bL,bZ ds b,bL];omega
def l7(left:Int)(n:Nat):Int:=if left-n<0 then -1 else left-n
theorem Gi{l:Int}{a:Nat}(h:¬l7 l a<0):l7 l a=l-a/\0<=l-a:=by
 unfold l7 at *
 split at h
 ·omega
 ·rename_i h';exact⟨if_neg h',by omega⟩
theorem Dl{l:Int}{a:Nat}(h:l7 l a<0):l-a<0:=by
 unfold l7 at *
 split at h<;>omega
theorem Gj{l:Int}{a:Nat}(h:l-a<0):l7 l a= -1:=if_pos h
theorem P5{l:Int}{a:Nat}(h:0<=l-a):l7 l a=l-a:=if_neg (by omega)
theorem int_eq{k:IntKind}{a b:Int}(h:a=b):V.c (.d (.i k a))=V.c (.d (.i k b)):=by rw[h]
theorem aY{a b:Bool}(h:a=b):V.c (.d (.b a))=V.c (.d (.b b)):=by rw[h]
noncomputable def dec(p:Prop):Bool:= @decide p (Classical.propDecidable p)
theorem bT{p:Prop}(h:p):dec p=true:=by simp[dec,h]
theorem bI{p:Prop}(h:¬p):dec p=false:=by simp[dec,h]
theorem gF{p:Prop}(h:dec p=true):p:=by simpa [dec] using h
theorem jR{p:Prop}(h:dec p=false):¬p:=by simpa [dec] using h
theorem xG{p:Prop}:(dec p=true)=p:=by simp[dec]
theorem EL{p:Prop}:(dec p=false)=¬p:=by simp[dec]
attribute [wf_preprocess] xG EL
theorem jJ{p q:Prop}(h:p<->q):dec p=dec q:=by rw[propext h]
theorem abU:dec True=true:=bT trivial
theorem YZ:dec False=false:=bI id
attribute [go_sem] abU YZ
theorem kY{p:Prop}[Decidable p]:decide p=dec p:=by by_cases h:p<;>simp[dec,h]
theorem gT{r:List D}:∀{rs:List (List D)},r∈rs->bL r<=bB rs
 |a::rs,h=>by
  rw[bB];rcases List.mem_cons.1 h with rfl|h
  ·omega
  ·have:=gT h;omega
def EM(z i:Nat)(R rows:List (List D)):Prop:=R.length=rows.length/\(∀r∈R,r.length=z)/\∀j,j<i->R[j]? =rows[j]?
theorem EM.step{z i:Nat}{R rows:List (List D)}{row:List D}(h:EM z i R rows)(hi:rows[i]? =some row)(hr:row.length=z):EM z (i+1) (R.set i (qZ (R.getD i []) 0 row)) rows:=by
 obtain⟨h1,h2,h3⟩:=h;have hlt:i<rows.length:=(List.getElem?_eq_some_iff.1 hi).1
 have hs:qZ (R.getD i []) 0 row=row:=by
  have hm:R.getD i []∈R:=by
   rw[List.getD_eq_getElem?_getD,List.getElem?_eq_getElem (by omega)];exact List.getElem_mem _
  have:=h2 _ hm;unfold qZ;rw[List.take_zero,List.nil_append,Nat.zero_add,hr,List.drop_eq_nil_of_le (by omega),List.append_nil]
 rw[hs];refine⟨by simpa using h1,fun r hr'=> ?_,fun j hj=> ?_⟩
 ·rcases List.mem_or_eq_of_mem_set hr' with h|h
  ·exact h2 r h
  ·rw[h];exact hr
 ·by_cases e:j=i
  ·subst e;rw[hi,List.getElem?_set_self (by omega)]
  ·rw[List.getElem?_set_ne (by omega)];exact h3 j (by omega)
theorem EM.done{z i:Nat}{R rows:List (List D)}(h:EM z i R rows)(hi:rows.length<=i):R=rows:=by
 obtain⟨h1,h2,h3⟩:=h;refine List.ext_getElem? fun j=> ?_;by_cases hj:j<i
 ·exact h3 j hj
 ·rw[List.getElem?_eq_none (by omega),List.getElem?_eq_none (by omega)]
def encS(s:List UInt8):List D:=[.s s]
def encI(n:Int):List D:=[.i .i64 n]
inductive au where
 |mk (aI:Int) (fName:List UInt8) (fArgs:List au)
def au.aI:au->Int| .mk x _ _=>x
def au.fName:au->List UInt8| .mk _ x _=>x
def au.fArgs:au->List au| .mk _ _ x=>x
theorem au.eta(x:au):au.mk x.aI x.fName x.fArgs=x:=by cases x;rfl
theorem au.ext{x y:au}(h0:x.aI=y.aI)(h1:x.fName=y.fName)(h2:x.fArgs=y.fArgs):x=y:=by
 rw[<-au.eta x,<-au.eta y,h0,h1,h2]
mutual
def au.enc:au->List D
 | .mk a0 a1 a2=>[.i .i64 a0,.s a1,.sl (au.encs a2)]
def au.encs:List au->List (List D)
 |[]=>[]
 |x::xs=>x.enc::au.encs xs
end
theorem au.jo:∀l,au.encs l=l.map au.enc
 |[]=>rfl
 |x::xs=>by rw[au.encs,List.map_cons,au.jo xs]
theorem au.aB(x:au):x.enc=[.i .i64 x.aI,.s x.fName,.sl (x.fArgs.map au.enc)]:=by
 cases x;simp only[au.enc,au.jo,au.aI,au.fName,au.fArgs]
abbrev au.v(x:au):V:=.agg [.d (.i .i64 x.aI),.d (.s x.fName),.d (.sl (x.fArgs.map au.enc))]
theorem au.pV(x:au): .agg (x.enc.map .d)=x.v:=by
 simp only[au.aB,List.map_cons,List.map_nil,List.cons_append,List.nil_append,List.map_append]
theorem au.bN(x:au):x.enc.length=3:=by
 simp only[au.aB,List.length_append,List.length_cons,List.length_nil]
def au.sz(x:au):Nat:=bL x.enc
theorem au.dz(x:au):bL x.enc=x.sz:=rfl
theorem au.iI(x:au):SizeOf.sizeOf x.fArgs<SizeOf.sizeOf x:=by cases x;simp[au.fArgs];omega
structure dH where
 fVar:List UInt8
 fType:au
def dH.enc(x:dH):List D:=[.s x.fVar]++(x.fType.enc)
theorem dH.aB(x:dH):x.enc=[.s x.fVar]++(x.fType.enc):=rfl
theorem dH.eta(x:dH):dH.mk x.fVar x.fType=x:=rfl
theorem dH.ext'{x y:dH}(h0:x.fVar=y.fVar)(h1:x.fType=y.fType):x=y:=by
 cases x;cases y;simp_all
abbrev dH.v(x:dH):V:=.agg [.d (.s x.fVar),.d (.i .i64 x.fType.aI),.d (.s x.fType.fName),.d (.sl (x.fType.fArgs.map au.enc))]
theorem dH.pV(x:dH): .agg (x.enc.map .d)=x.v:=by
 simp only[dH.aB,au.aB,List.map_cons,List.map_nil,List.cons_append,List.nil_append,List.map_append]
theorem dH.bN(x:dH):x.enc.length=4:=by
 simp only[dH.aB,au.bN,List.length_append,List.length_cons,List.length_nil]
def dH.sz(x:dH):Nat:=bL x.enc
theorem dH.dz(x:dH):bL x.enc=x.sz:=rfl
structure aM where
 bg:List UInt8
 fType:au
def aM.enc(x:aM):List D:=[.s x.bg]++(x.fType.enc)
theorem aM.aB(x:aM):x.enc=[.s x.bg]++(x.fType.enc):=rfl
theorem aM.eta(x:aM):aM.mk x.bg x.fType=x:=rfl
theorem aM.ext'{x y:aM}(h0:x.bg=y.bg)(h1:x.fType=y.fType):x=y:=by
 cases x;cases y;simp_all
abbrev aM.v(x:aM):V:=.agg [.d (.s x.bg),.d (.i .i64 x.fType.aI),.d (.s x.fType.fName),.d (.sl (x.fType.fArgs.map au.enc))]
theorem aM.pV(x:aM): .agg (x.enc.map .d)=x.v:=by
 simp only[aM.aB,au.aB,List.map_cons,List.map_nil,List.cons_append,List.nil_append,List.map_append]
theorem aM.bN(x:aM):x.enc.length=4:=by
 simp only[aM.aB,au.bN,List.length_append,List.length_cons,List.length_nil]
def aM.sz(x:aM):Nat:=bL x.enc
theorem aM.dz(x:aM):bL x.enc=x.sz:=rfl
mutual
inductive aC where
 |mk (aI:Int) (bg:List UInt8) (fName:List UInt8) (fN:Int) (fType:au) (fArgs:List aC) (aO:List aP)
inductive aP where
 |mk (bU:List UInt8) (aK:List (List UInt8)) (fBody:aC)
end
def aC.aI:aC->Int| .mk x _ _ _ _ _ _=>x
def aC.bg:aC->List UInt8| .mk _ x _ _ _ _ _=>x
def aC.fName:aC->List UInt8| .mk _ _ x _ _ _ _=>x
def aC.fN:aC->Int| .mk _ _ _ x _ _ _=>x
def aC.fType:aC->au| .mk _ _ _ _ x _ _=>x
def aC.fArgs:aC->List aC| .mk _ _ _ _ _ x _=>x
def aC.aO:aC->List aP| .mk _ _ _ _ _ _ x=>x
theorem aC.eta(x:aC):aC.mk x.aI x.bg x.fName x.fN x.fType x.fArgs x.aO=x:=by cases x;rfl
theorem aC.ext{x y:aC}(h0:x.aI=y.aI)(h1:x.bg=y.bg)(h2:x.fName=y.fName)(h3:x.fN=y.fN)(h4:x.fType=y.fType)(h5:x.fArgs=y.fArgs)(h6:x.aO=y.aO):x=y:=by
 rw[<-aC.eta x,<-aC.eta y,h0,h1,h2,h3,h4,h5,h6]
def aP.bU:aP->List UInt8| .mk x _ _=>x
def aP.aK:aP->List (List UInt8)| .mk _ x _=>x
def aP.fBody:aP->aC| .mk _ _ x=>x
theorem aP.eta(x:aP):aP.mk x.bU x.aK x.fBody=x:=by cases x;rfl
theorem aP.ext{x y:aP}(h0:x.bU=y.bU)(h1:x.aK=y.aK)(h2:x.fBody=y.fBody):x=y:=by
 rw[<-aP.eta x,<-aP.eta y,h0,h1,h2]
mutual
def aC.enc:aC->List D
 | .mk a0 a1 a2 a3 a4 a5 a6=>[.i .i64 a0,.s a1,.s a2,.i .i64 a3]++(a4.enc++([.sl (aC.encs a5),.sl (aP.encs a6)]))
def aC.encs:List aC->List (List D)
 |[]=>[]
 |x::xs=>x.enc::aC.encs xs
def aP.enc:aP->List D
 | .mk a0 a1 a2=>[.s a0,.sl (a1.map encS)]++(aC.enc a2)
def aP.encs:List aP->List (List D)
 |[]=>[]
 |x::xs=>x.enc::aP.encs xs
end
theorem aC.jo:∀l,aC.encs l=l.map aC.enc
 |[]=>rfl
 |x::xs=>by rw[aC.encs,List.map_cons,aC.jo xs]
theorem aP.jo:∀l,aP.encs l=l.map aP.enc
 |[]=>rfl
 |x::xs=>by rw[aP.encs,List.map_cons,aP.jo xs]
theorem aC.aB(x:aC):x.enc=[.i .i64 x.aI,.s x.bg,.s x.fName,.i .i64 x.fN]++(x.fType.enc++([.sl (x.fArgs.map aC.enc),.sl (x.aO.map aP.enc)])):=by
 cases x;simp only[aC.enc,aC.jo,aP.jo,aC.aI,aC.bg,aC.fName,aC.fN,aC.fType,aC.fArgs,aC.aO]
theorem aP.aB(x:aP):x.enc=[.s x.bU,.sl (x.aK.map encS)]++(x.fBody.enc):=by
 cases x;simp only[aP.enc,aC.jo,aP.jo,aP.bU,aP.aK,aP.fBody]
abbrev aC.v(x:aC):V:=.agg [.d (.i .i64 x.aI),.d (.s x.bg),.d (.s x.fName),.d (.i .i64 x.fN),.d (.i .i64 x.fType.aI),.d (.s x.fType.fName),.d (.sl (x.fType.fArgs.map au.enc)),.d (.sl (x.fArgs.map aC.enc)),.d (.sl (x.aO.map aP.enc))]
theorem aC.pV(x:aC): .agg (x.enc.map .d)=x.v:=by
 simp only[aC.aB,au.aB,List.map_cons,List.map_nil,List.cons_append,List.nil_append,List.map_append]
theorem aC.bN(x:aC):x.enc.length=9:=by
 simp only[aC.aB,au.bN,List.length_append,List.length_cons,List.length_nil]
def aC.sz(x:aC):Nat:=bL x.enc
theorem aC.dz(x:aC):bL x.enc=x.sz:=rfl
theorem aC.iI(x:aC):SizeOf.sizeOf x.fArgs<SizeOf.sizeOf x:=by cases x;simp[aC.fArgs];omega
theorem aC.uU(x:aC):SizeOf.sizeOf x.aO<SizeOf.sizeOf x:=by cases x;simp[aC.aO];omega
abbrev aP.v(x:aP):V:=.agg [.d (.s x.bU),.d (.sl (x.aK.map encS)),.d (.i .i64 x.fBody.aI),.d (.s x.fBody.bg),.d (.s x.fBody.fName),.d (.i .i64 x.fBody.fN),.d (.i .i64 x.fBody.fType.aI),.d (.s x.fBody.fType.fName),.d (.sl (x.fBody.fType.fArgs.map au.enc)),.d (.sl (x.fBody.fArgs.map aC.enc)),.d (.sl (x.fBody.aO.map aP.enc))]
theorem aP.pV(x:aP): .agg (x.enc.map .d)=x.v:=by
 simp only[aP.aB,aC.aB,au.aB,List.map_cons,List.map_nil,List.cons_append,List.nil_append,List.map_append]
theorem aP.bN(x:aP):x.enc.length=11:=by
 simp only[aP.aB,aC.bN,List.length_append,List.length_cons,List.length_nil]
def aP.sz(x:aP):Nat:=bL x.enc
theorem aP.dz(x:aP):bL x.enc=x.sz:=rfl
theorem aP.sU(x:aP):SizeOf.sizeOf x.fBody<SizeOf.sizeOf x:=by cases x;simp[aP.fBody];omega
inductive ah where
 |mk (aU:List UInt8) (aj:List ah)
def ah.aU:ah->List UInt8| .mk x _=>x
def ah.aj:ah->List ah| .mk _ x=>x
theorem ah.eta(x:ah):ah.mk x.aU x.aj=x:=by cases x;rfl
theorem ah.ext{x y:ah}(h0:x.aU=y.aU)(h1:x.aj=y.aj):x=y:=by
 rw[<-ah.eta x,<-ah.eta y,h0,h1]
mutual
def ah.enc:ah->List D
 | .mk a0 a1=>[.s a0,.sl (ah.encs a1)]
def ah.encs:List ah->List (List D)
 |[]=>[]
 |x::xs=>x.enc::ah.encs xs
end
theorem ah.jo:∀l,ah.encs l=l.map ah.enc
 |[]=>rfl
 |x::xs=>by rw[ah.encs,List.map_cons,ah.jo xs]
theorem ah.aB(x:ah):x.enc=[.s x.aU,.sl (x.aj.map ah.enc)]:=by
 cases x;simp only[ah.enc,ah.jo,ah.aU,ah.aj]
abbrev ah.v(x:ah):V:=.agg [.d (.s x.aU),.d (.sl (x.aj.map ah.enc))]
theorem ah.pV(x:ah): .agg (x.enc.map .d)=x.v:=by
 simp only[ah.aB,List.map_cons,List.map_nil,List.cons_append,List.nil_append,List.map_append]
theorem ah.bN(x:ah):x.enc.length=2:=by
 simp only[ah.aB,List.length_append,List.length_cons,List.length_nil]
def ah.sz(x:ah):Nat:=bL x.enc
theorem ah.dz(x:ah):bL x.enc=x.sz:=rfl
theorem ah.pW(x:ah):SizeOf.sizeOf x.aj<SizeOf.sizeOf x:=by cases x;simp[ah.aj];omega
structure cK where
 fName:List UInt8
 iC:List au
 fQ:au
 rA:Bool
 aK:List (List UInt8)
 fBody:aC
def cK.enc(x:cK):List D:=[.s x.fName,.sl (x.iC.map au.enc)]++(x.fQ.enc++([.b x.rA,.sl (x.aK.map encS)]++(x.fBody.enc)))
theorem cK.aB(x:cK):x.enc=[.s x.fName,.sl (x.iC.map au.enc)]++(x.fQ.enc++([.b x.rA,.sl (x.aK.map encS)]++(x.fBody.enc))):=rfl
theorem cK.eta(x:cK):cK.mk x.fName x.iC x.fQ x.rA x.aK x.fBody=x:=rfl
theorem cK.ext'{x y:cK}(h0:x.fName=y.fName)(h1:x.iC=y.iC)(h2:x.fQ=y.fQ)(h3:x.rA=y.rA)(h4:x.aK=y.aK)(h5:x.fBody=y.fBody):x=y:=by
 cases x;cases y;simp_all
abbrev cK.v(x:cK):V:=.agg [.d (.s x.fName),.d (.sl (x.iC.map au.enc)),.d (.i .i64 x.fQ.aI),.d (.s x.fQ.fName),.d (.sl (x.fQ.fArgs.map au.enc)),.d (.b x.rA),.d (.sl (x.aK.map encS)),.d (.i .i64 x.fBody.aI),.d (.s x.fBody.bg),.d (.s x.fBody.fName),.d (.i .i64 x.fBody.fN),.d (.i .i64 x.fBody.fType.aI),.d (.s x.fBody.fType.fName),.d (.sl (x.fBody.fType.fArgs.map au.enc)),.d (.sl (x.fBody.fArgs.map aC.enc)),.d (.sl (x.fBody.aO.map aP.enc))]
theorem cK.pV(x:cK): .agg (x.enc.map .d)=x.v:=by
 simp only[cK.aB,aC.aB,au.aB,List.map_cons,List.map_nil,List.cons_append,List.nil_append,List.map_append]
theorem cK.bN(x:cK):x.enc.length=16:=by
 simp only[cK.aB,aC.bN,au.bN,List.length_append,List.length_cons,List.length_nil]
def cK.sz(x:cK):Nat:=bL x.enc
theorem cK.dz(x:cK):bL x.enc=x.sz:=rfl
structure fC where
 fName:List UInt8
 jS:List (List UInt8)
 Gl:Bool
 bC:Bool
 kW:List cK
def fC.enc(x:fC):List D:=[.s x.fName,.sl (x.jS.map encS),.b x.Gl,.b x.bC,.sl (x.kW.map cK.enc)]
theorem fC.aB(x:fC):x.enc=[.s x.fName,.sl (x.jS.map encS),.b x.Gl,.b x.bC,.sl (x.kW.map cK.enc)]:=rfl
theorem fC.eta(x:fC):fC.mk x.fName x.jS x.Gl x.bC x.kW=x:=rfl
theorem fC.ext'{x y:fC}(h0:x.fName=y.fName)(h1:x.jS=y.jS)(h2:x.Gl=y.Gl)(h3:x.bC=y.bC)(h4:x.kW=y.kW):x=y:=by
 cases x;cases y;simp_all
abbrev fC.v(x:fC):V:=.agg [.d (.s x.fName),.d (.sl (x.jS.map encS)),.d (.b x.Gl),.d (.b x.bC),.d (.sl (x.kW.map cK.enc))]
theorem fC.pV(x:fC): .agg (x.enc.map .d)=x.v:=by
 simp only[fC.aB,List.map_cons,List.map_nil,List.cons_append,List.nil_append,List.map_append]
theorem fC.bN(x:fC):x.enc.length=5:=by
 simp only[fC.aB,List.length_append,List.length_cons,List.length_nil]
def fC.sz(x:fC):Nat:=bL x.enc
theorem fC.dz(x:fC):bL x.enc=x.sz:=rfl
structure bP where
 fName:List UInt8
 pX:List au
def bP.enc(x:bP):List D:=[.s x.fName,.sl (x.pX.map au.enc)]
theorem bP.aB(x:bP):x.enc=[.s x.fName,.sl (x.pX.map au.enc)]:=rfl
theorem bP.eta(x:bP):bP.mk x.fName x.pX=x:=rfl
theorem bP.ext'{x y:bP}(h0:x.fName=y.fName)(h1:x.pX=y.pX):x=y:=by
 cases x;cases y;simp_all
abbrev bP.v(x:bP):V:=.agg [.d (.s x.fName),.d (.sl (x.pX.map au.enc))]
theorem bP.pV(x:bP): .agg (x.enc.map .d)=x.v:=by
 simp only[bP.aB,List.map_cons,List.map_nil,List.cons_append,List.nil_append,List.map_append]
theorem bP.bN(x:bP):x.enc.length=2:=by
 simp only[bP.aB,List.length_append,List.length_cons,List.length_nil]
def bP.sz(x:bP):Nat:=bL x.enc
theorem bP.dz(x:bP):bL x.enc=x.sz:=rfl
structure dx where
 fName:List UInt8
 aK:List (List UInt8)
 j4:List bP
def dx.enc(x:dx):List D:=[.s x.fName,.sl (x.aK.map encS),.sl (x.j4.map bP.enc)]
theorem dx.aB(x:dx):x.enc=[.s x.fName,.sl (x.aK.map encS),.sl (x.j4.map bP.enc)]:=rfl
theorem dx.eta(x:dx):dx.mk x.fName x.aK x.j4=x:=rfl
theorem dx.ext'{x y:dx}(h0:x.fName=y.fName)(h1:x.aK=y.aK)(h2:x.j4=y.j4):x=y:=by
 cases x;cases y;simp_all
abbrev dx.v(x:dx):V:=.agg [.d (.s x.fName),.d (.sl (x.aK.map encS)),.d (.sl (x.j4.map bP.enc))]
theorem dx.pV(x:dx): .agg (x.enc.map .d)=x.v:=by
 simp only[dx.aB,List.map_cons,List.map_nil,List.cons_append,List.nil_append,List.map_append]
theorem dx.bN(x:dx):x.enc.length=3:=by
 simp only[dx.aB,List.length_append,List.length_cons,List.length_nil]
def dx.sz(x:dx):Nat:=bL x.enc
theorem dx.dz(x:dx):bL x.enc=x.sz:=rfl
structure aN where
 fName:List UInt8
 aK:List (List UInt8)
 fBody:aC
def aN.enc(x:aN):List D:=[.s x.fName,.sl (x.aK.map encS)]++(x.fBody.enc)
theorem aN.aB(x:aN):x.enc=[.s x.fName,.sl (x.aK.map encS)]++(x.fBody.enc):=rfl
theorem aN.eta(x:aN):aN.mk x.fName x.aK x.fBody=x:=rfl
theorem aN.ext'{x y:aN}(h0:x.fName=y.fName)(h1:x.aK=y.aK)(h2:x.fBody=y.fBody):x=y:=by
 cases x;cases y;simp_all
abbrev aN.v(x:aN):V:=.agg [.d (.s x.fName),.d (.sl (x.aK.map encS)),.d (.i .i64 x.fBody.aI),.d (.s x.fBody.bg),.d (.s x.fBody.fName),.d (.i .i64 x.fBody.fN),.d (.i .i64 x.fBody.fType.aI),.d (.s x.fBody.fType.fName),.d (.sl (x.fBody.fType.fArgs.map au.enc)),.d (.sl (x.fBody.fArgs.map aC.enc)),.d (.sl (x.fBody.aO.map aP.enc))]
theorem aN.pV(x:aN): .agg (x.enc.map .d)=x.v:=by
 simp only[aN.aB,aC.aB,au.aB,List.map_cons,List.map_nil,List.cons_append,List.nil_append,List.map_append]
theorem aN.bN(x:aN):x.enc.length=11:=by
 simp only[aN.aB,aC.bN,List.length_append,List.length_cons,List.length_nil]
def aN.sz(x:aN):Nat:=bL x.enc
theorem aN.dz(x:aN):bL x.enc=x.sz:=rfl
structure aH where
 bg:List UInt8
 aK:List (List UInt8)
 bA:au
 bR:List aM
 fq:Bool
 dn:Bool
 bC:au
 aF:List aN
def aH.enc(x:aH):List D:=[.s x.bg,.sl (x.aK.map encS)]++(x.bA.enc++([.sl (x.bR.map aM.enc),.b x.fq,.b x.dn]++(x.bC.enc++([.sl (x.aF.map aN.enc)]))))
theorem aH.aB(x:aH):x.enc=[.s x.bg,.sl (x.aK.map encS)]++(x.bA.enc++([.sl (x.bR.map aM.enc),.b x.fq,.b x.dn]++(x.bC.enc++([.sl (x.aF.map aN.enc)])))):=rfl
theorem aH.eta(x:aH):aH.mk x.bg x.aK x.bA x.bR x.fq x.dn x.bC x.aF=x:=rfl
theorem aH.ext'{x y:aH}(h0:x.bg=y.bg)(h1:x.aK=y.aK)(h2:x.bA=y.bA)(h3:x.bR=y.bR)(h4:x.fq=y.fq)(h5:x.dn=y.dn)(h6:x.bC=y.bC)(h7:x.aF=y.aF):x=y:=by
 cases x;cases y;simp_all
abbrev aH.v(x:aH):V:=.agg [.d (.s x.bg),.d (.sl (x.aK.map encS)),.d (.i .i64 x.bA.aI),.d (.s x.bA.fName),.d (.sl (x.bA.fArgs.map au.enc)),.d (.sl (x.bR.map aM.enc)),.d (.b x.fq),.d (.b x.dn),.d (.i .i64 x.bC.aI),.d (.s x.bC.fName),.d (.sl (x.bC.fArgs.map au.enc)),.d (.sl (x.aF.map aN.enc))]
theorem aH.pV(x:aH): .agg (x.enc.map .d)=x.v:=by
 simp only[aH.aB,au.aB,List.map_cons,List.map_nil,List.cons_append,List.nil_append,List.map_append]
theorem aH.bN(x:aH):x.enc.length=12:=by
 simp only[aH.aB,au.bN,List.length_append,List.length_cons,List.length_nil]
def aH.sz(x:aH):Nat:=bL x.enc
theorem aH.dz(x:aH):bL x.enc=x.sz:=rfl
structure eG where
 fName:List UInt8
 fType:au
def eG.enc(x:eG):List D:=[.s x.fName]++(x.fType.enc)
theorem eG.aB(x:eG):x.enc=[.s x.fName]++(x.fType.enc):=rfl
theorem eG.eta(x:eG):eG.mk x.fName x.fType=x:=rfl
theorem eG.ext'{x y:eG}(h0:x.fName=y.fName)(h1:x.fType=y.fType):x=y:=by
 cases x;cases y;simp_all
abbrev eG.v(x:eG):V:=.agg [.d (.s x.fName),.d (.i .i64 x.fType.aI),.d (.s x.fType.fName),.d (.sl (x.fType.fArgs.map au.enc))]
theorem eG.pV(x:eG): .agg (x.enc.map .d)=x.v:=by
 simp only[eG.aB,au.aB,List.map_cons,List.map_nil,List.cons_append,List.nil_append,List.map_append]
theorem eG.bN(x:eG):x.enc.length=4:=by
 simp only[eG.aB,au.bN,List.length_append,List.length_cons,List.length_nil]
def eG.sz(x:eG):Nat:=bL x.enc
theorem eG.dz(x:eG):bL x.enc=x.sz:=rfl
structure dh where
 fName:List UInt8
 aK:List (List UInt8)
 bR:List aM
 iC:List eG
 fQ:au
 fBody:aC
def dh.enc(x:dh):List D:=[.s x.fName,.sl (x.aK.map encS),.sl (x.bR.map aM.enc),.sl (x.iC.map eG.enc)]++(x.fQ.enc++(x.fBody.enc))
theorem dh.aB(x:dh):x.enc=[.s x.fName,.sl (x.aK.map encS),.sl (x.bR.map aM.enc),.sl (x.iC.map eG.enc)]++(x.fQ.enc++(x.fBody.enc)):=rfl
theorem dh.eta(x:dh):dh.mk x.fName x.aK x.bR x.iC x.fQ x.fBody=x:=rfl
theorem dh.ext'{x y:dh}(h0:x.fName=y.fName)(h1:x.aK=y.aK)(h2:x.bR=y.bR)(h3:x.iC=y.iC)(h4:x.fQ=y.fQ)(h5:x.fBody=y.fBody):x=y:=by
 cases x;cases y;simp_all
abbrev dh.v(x:dh):V:=.agg [.d (.s x.fName),.d (.sl (x.aK.map encS)),.d (.sl (x.bR.map aM.enc)),.d (.sl (x.iC.map eG.enc)),.d (.i .i64 x.fQ.aI),.d (.s x.fQ.fName),.d (.sl (x.fQ.fArgs.map au.enc)),.d (.i .i64 x.fBody.aI),.d (.s x.fBody.bg),.d (.s x.fBody.fName),.d (.i .i64 x.fBody.fN),.d (.i .i64 x.fBody.fType.aI),.d (.s x.fBody.fType.fName),.d (.sl (x.fBody.fType.fArgs.map au.enc)),.d (.sl (x.fBody.fArgs.map aC.enc)),.d (.sl (x.fBody.aO.map aP.enc))]
theorem dh.pV(x:dh): .agg (x.enc.map .d)=x.v:=by
 simp only[dh.aB,aC.aB,au.aB,List.map_cons,List.map_nil,List.cons_append,List.nil_append,List.map_append]
theorem dh.bN(x:dh):x.enc.length=16:=by
 simp only[dh.aB,aC.bN,au.bN,List.length_append,List.length_cons,List.length_nil]
def dh.sz(x:dh):Nat:=bL x.enc
theorem dh.dz(x:dh):bL x.enc=x.sz:=rfl
structure dV where
 fName:List UInt8
 AU:List (List UInt8)
 uV:List fC
 oD:List dx
 oF:List aH
 oG:List dh
def dV.enc(x:dV):List D:=[.s x.fName,.sl (x.AU.map encS),.sl (x.uV.map fC.enc),.sl (x.oD.map dx.enc),.sl (x.oF.map aH.enc),.sl (x.oG.map dh.enc)]
theorem dV.aB(x:dV):x.enc=[.s x.fName,.sl (x.AU.map encS),.sl (x.uV.map fC.enc),.sl (x.oD.map dx.enc),.sl (x.oF.map aH.enc),.sl (x.oG.map dh.enc)]:=rfl
theorem dV.eta(x:dV):dV.mk x.fName x.AU x.uV x.oD x.oF x.oG=x:=rfl
theorem dV.ext'{x y:dV}(h0:x.fName=y.fName)(h1:x.AU=y.AU)(h2:x.uV=y.uV)(h3:x.oD=y.oD)(h4:x.oF=y.oF)(h5:x.oG=y.oG):x=y:=by
 cases x;cases y;simp_all
abbrev dV.v(x:dV):V:=.agg [.d (.s x.fName),.d (.sl (x.AU.map encS)),.d (.sl (x.uV.map fC.enc)),.d (.sl (x.oD.map dx.enc)),.d (.sl (x.oF.map aH.enc)),.d (.sl (x.oG.map dh.enc))]
theorem dV.pV(x:dV): .agg (x.enc.map .d)=x.v:=by
 simp only[dV.aB,List.map_cons,List.map_nil,List.cons_append,List.nil_append,List.map_append]
theorem dV.bN(x:dV):x.enc.length=6:=by
 simp only[dV.aB,List.length_append,List.length_cons,List.length_nil]
def dV.sz(x:dV):Nat:=bL x.enc
theorem dV.dz(x:dV):bL x.enc=x.sz:=rfl
structure fB where
 qp:List dV
def fB.enc(x:fB):List D:=[.sl (x.qp.map dV.enc)]
theorem fB.aB(x:fB):x.enc=[.sl (x.qp.map dV.enc)]:=rfl
theorem fB.eta(x:fB):fB.mk x.qp=x:=rfl
theorem fB.ext'{x y:fB}(h0:x.qp=y.qp):x=y:=by
 cases x;cases y;simp_all
abbrev fB.v(x:fB):V:=.agg [.d (.sl (x.qp.map dV.enc))]
theorem fB.pV(x:fB): .agg (x.enc.map .d)=x.v:=by
 simp only[fB.aB,List.map_cons,List.map_nil,List.cons_append,List.nil_append,List.map_append]
theorem fB.bN(x:fB):x.enc.length=1:=by
 simp only[fB.aB,List.length_append,List.length_cons,List.length_nil]
def fB.sz(x:fB):Nat:=bL x.enc
theorem fB.dz(x:fB):bL x.enc=x.sz:=rfl
structure dw where
 wU:Int
 TR:Int
def dw.enc(x:dw):List D:=[.i .i64 x.wU,.i .i64 x.TR]
theorem dw.aB(x:dw):x.enc=[.i .i64 x.wU,.i .i64 x.TR]:=rfl
theorem dw.eta(x:dw):dw.mk x.wU x.TR=x:=rfl
theorem dw.ext'{x y:dw}(h0:x.wU=y.wU)(h1:x.TR=y.TR):x=y:=by
 cases x;cases y;simp_all
abbrev dw.v(x:dw):V:=.agg [.d (.i .i64 x.wU),.d (.i .i64 x.TR)]
theorem dw.pV(x:dw): .agg (x.enc.map .d)=x.v:=by
 simp only[dw.aB,List.map_cons,List.map_nil,List.cons_append,List.nil_append,List.map_append]
theorem dw.bN(x:dw):x.enc.length=2:=by
 simp only[dw.aB,List.length_append,List.length_cons,List.length_nil]
def dw.sz(x:dw):Nat:=bL x.enc
theorem dw.dz(x:dw):bL x.enc=x.sz:=rfl
attribute [go_sem] au.aB dH.aB aM.aB aC.aB aP.aB ah.aB cK.aB fC.aB bP.aB dx.aB aN.aB aH.aB eG.aB dh.aB dV.aB fB.aB dw.aB encS encI
def TS:List dH->List UInt8->Option au
 |[],_=>none
 |b::bs,v=>if b.fVar=v then some b.fType else TS bs v
mutual
noncomputable def zX(s:List dH):au->au->Option (List dH)
 | .mk k n a,t=>
   if k=1 then
    match TS s n with
    |some u=>if dec (u=t)=true then some s else none
    |none=>some (s++[⟨n,t⟩])
   else if k=t.aI/\n=t.fName/\a.length=t.fArgs.length then uh s a t.fArgs else none
noncomputable def uh(s:List dH):List au->List au->Option (List dH)
 |[],_=>some s
 |_::_,[]=>none
 |p::ps,t::ts=>
  match zX s p t with
  |some s'=>uh s' ps ts
  |none=>none
end
mutual
def au.cnt:au->Nat
 | .mk _ _ a=>1+au.dD a
def au.dD:List au->Nat
 |[]=>0
 |t::ts=>t.cnt+au.dD ts
end
theorem au.nu(t:au):t.cnt=1+au.dD t.fArgs:=by cases t;rw[au.cnt];rfl
mutual
theorem jT:∀t:au,t.cnt<=1+t.sz
 | .mk k n a=>by
   have h:=uW a;rw[au.cnt]
   have e:(au.mk k n a).sz=n.length+(a.length+bB (a.map au.enc)):=by
    simp only[au.sz,au.aB,bL,D.sz,List.length_map,au.fName,au.fArgs,Nat.add_zero,Nat.zero_add]
   omega
theorem uW:∀ts:List au,au.dD ts<=ts.length+bB (ts.map au.enc)
 |[]=>by simp[au.dD]
 |t::ts=>by
  have h1:=jT t;have h2:=uW ts;rw[au.dD,List.length_cons,List.map_cons,bB,au.dz];omega
end
mutual
theorem VY:∀(p:au)(s:List dH)(t:au)(s':List dH),zX s p t=some s'->s'.length<=s.length+p.cnt
 | .mk k n a,s,t,s',h=>by
   rw[zX] at h;rw[au.cnt];split at h
   ·split at h
    ·split at h
     ·cases h;omega
     ·cases h
    ·cases h;simp
   ·split at h
    ·have:=JJ a s t.fArgs s' h;omega
    ·cases h
theorem JJ:∀(ps:List au)(s:List dH)(ts:List au)(s':List dH),uh s ps ts=some s'->s'.length<=s.length+au.dD ps
 |[],s,ts,s',h=>by rw[uh] at h;cases h;omega
 |p::ps,s,[],s',h=>by rw[uh] at h;cases h
 |p::ps,s,t::ts,s',h=>by
  rw[uh] at h;rw[au.dD]
  cases hm:zX s p t with
  |none=>rw[hm] at h;cases h
  |some s1=>
   rw[hm] at h;have h1:=VY p s t s1 hm;have h2:=JJ ps s1 ts s' h;omega
end
def Small(s:List dH):Prop:=∀b∈s,b.fType.sz<=4194304
mutual
theorem P6:∀(p:au)(s:List dH)(t:au)(s':List dH),t.sz<=4194304->Small s->zX s p t=some s'->Small s'
 | .mk k n a,s,t,s',ht,hs,h=>by
   rw[zX] at h;split at h
   ·split at h
    ·split at h
     ·cases h;exact hs
     ·cases h
    ·cases h;intro b hb;rcases List.mem_append.1 hb with hb|hb
     ·exact hs b hb
     ·simp at hb;subst hb;exact ht
   ·split at h
    ·refine EN a s t.fArgs s' ?_ hs h;intro x hx;have h1:=gT (List.mem_map_of_mem (f:=au.enc) hx)
     have h2:t.sz=t.fName.length+(t.fArgs.length+bB (t.fArgs.map au.enc)):=by
      simp only[au.sz,au.aB,bL,bZ,D.sz,List.length_map,Nat.add_zero,Nat.zero_add]
     rw[au.dz] at h1;omega
    ·cases h
theorem EN:∀(ps:List au)(s:List dH)(ts:List au)(s':List dH),(∀t∈ts,t.sz<=4194304)->Small s->uh s ps ts=some s'->Small s'
 |[],s,ts,s',ht,hs,h=>by rw[uh] at h;cases h;exact hs
 |p::ps,s,[],s',ht,hs,h=>by rw[uh] at h;cases h
 |p::ps,s,t::ts,s',ht,hs,h=>by
  rw[uh] at h
  cases hm:zX s p t with
  |none=>rw[hm] at h;cases h
  |some s1=>
   rw[hm] at h;exact EN ps s1 ts s' (fun x hx=>ht x (by simp[hx])) (P6 p s t s1 (ht t (by simp)) hs hm) h
end
end Go.Ab
namespace Go.Proofs.YtnceiannponbjaaGreatDoor.Fa
open Go Go.Ab
abbrev fV(t c b:Nat)(z:List C):Prop:=prog.cellsOf t=c/\prog.bytesOf t=b/\(prog.info? t).isSome=true/\gZ prog t=some z
theorem gu{t c b:Nat}{z:List C}(h1:prog.cellsOf t=c:=by kernel_rfl)(h2:prog.bytesOf t=b:=by kernel_rfl)(h3:(prog.info? t).isSome=true:=by kernel_rfl)(h4:gZ prog t=some z:=by kernel_rfl):fV t c b z:=⟨h1,h2,h3,h4⟩
theorem ty1:fV 1 1 8 [.d (.o .nilFunc)]:=gu
theorem ty2:fV 2 1 8 [.d (.i .i64 0)]:=gu
theorem ty3:fV 3 1 8 [.d (.i .i64 0)]:=gu
theorem ty4:fV 4 1 1 [.d (.b false)]:=gu
theorem ahP:zeroV prog 4=some (.bool false):=by kernel_rfl
theorem ty5:fV 5 1 1 [.d (.i .u8 0)]:=gu
theorem ty9:fV 9 1 16 [.d (.s [])]:=gu
theorem aiX:fV 12 1 8 [.d (.i .u64 0)]:=gu
theorem aiY:fV 20 1 16 [.d (.o .nilIface)]:=gu
theorem aiZ:fV 21 1 4 [.d (.i .i32 0)]:=gu
theorem ai0:fV 22 1 24 [.bE []]:=gu
theorem ai1:fV 23 1 8 [.d (.o .nilFunc)]:=gu
theorem ai2:fV 24 1 24 [.bE []]:=gu
theorem ai3:fV 25 1 24 [.bE []]:=gu
theorem ai4:fV 26 1 24 [.bE []]:=gu
theorem ai5:fV 27 1 24 [.bE []]:=gu
theorem ai6:fV 29 3 48 [.d (.i .i64 0),.d (.s []),.bE []]:=gu
theorem ai7:fV 30 1 24 [.bE []]:=gu
theorem ai8:fV 31 1 24 [.bE []]:=gu
theorem ai9:fV 32 9 144 [.d (.i .i64 0),.d (.s []),.d (.s []),.d (.i .i64 0),.d (.i .i64 0),.d (.s []),.bE [],.bE [],.bE []]:=gu
theorem aja:fV 33 9 144 [.d (.i .i64 0),.d (.s []),.d (.s []),.d (.i .i64 0),.d (.i .i64 0),.d (.s []),.bE [],.bE [],.bE []]:=gu
theorem ajb:fV 34 16 280 [.d (.s []),.bE [],.bE [],.bE [],.d (.i .i64 0),.d (.s []),.bE [],.d (.i .i64 0),.d (.s []),.d (.s []),.d (.i .i64 0),.d (.i .i64 0),.d (.s []),.bE [],.bE [],.bE []]:=gu
theorem ajc:fV 35 16 280 [.d (.s []),.bE [],.bE [],.bE [],.d (.i .i64 0),.d (.s []),.bE [],.d (.i .i64 0),.d (.s []),.d (.s []),.d (.i .i64 0),.d (.i .i64 0),.d (.s []),.bE [],.bE [],.bE []]:=gu
theorem ajd:fV 36 1 8 [.d (.o .nilFunc)]:=gu
theorem aje:fV 37 1 24 [.bE []]:=gu
theorem ajf:fV 39 2 40 [.d (.s []),.bE []]:=gu
theorem ajg:fV 40 1 8 [.d (.o .nilFunc)]:=gu
theorem ajh:fV 41 1 8 [.d (.o .nilFunc)]:=gu
theorem aji:fV 42 1 8 [.d (.o .nilFunc)]:=gu
theorem ajj:fV 44 1 8 [.d (.o .nilFunc)]:=gu
theorem ajk:fV 46 1 24 [.bE []]:=gu
theorem ajl:fV 48 5 72 [.d (.s []),.bE [],.d (.b false),.d (.b false),.bE []]:=gu
theorem ajm:fV 49 1 8 [.d (.o .nilFunc)]:=gu
theorem ajn:fV 50 1 8 [.d (.o .nilFunc)]:=gu
theorem ajo:fV 54 1 24 [.bE []]:=gu
theorem ajp:fV 55 12 192 [.d (.s []),.bE [],.d (.i .i64 0),.d (.s []),.bE [],.bE [],.d (.b false),.d (.b false),.d (.i .i64 0),.d (.s []),.bE [],.bE []]:=gu
theorem ajq:fV 56 12 192 [.d (.s []),.bE [],.d (.i .i64 0),.d (.s []),.bE [],.bE [],.d (.b false),.d (.b false),.d (.i .i64 0),.d (.s []),.bE [],.bE []]:=gu
theorem ajr:fV 63 1 8 [.d (.o (.pointer none))]:=gu
theorem ajs:fV 64 1 8 [.d (.o .nilFunc)]:=gu
theorem ajt:fV 65 1 8 [.d (.o .nilFunc)]:=gu
theorem aju:fV 69 4 64 [.d (.s []),.d (.i .i64 0),.d (.s []),.bE []]:=gu
theorem ajv:fV 70 1 8 [.d (.o .nilFunc)]:=gu
theorem ajw:fV 71 1 8 [.d (.o .nilFunc)]:=gu
theorem ajx:fV 75 1 8 [.d (.o .nilFunc)]:=gu
theorem ajy:fV 91 1 8 [.d (.o .nilFunc)]:=gu
theorem ajz:fV 92 1 8 [.d (.o .nilFunc)]:=gu
theorem ajA:fV 93 1 8 [.d (.o .nilFunc)]:=gu
theorem ajB:fV 95 16 264 [.d (.s []),.bE [],.d (.i .i64 0),.d (.s []),.bE [],.d (.b false),.bE [],.d (.i .i64 0),.d (.s []),.d (.s []),.d (.i .i64 0),.d (.i .i64 0),.d (.s []),.bE [],.bE [],.bE []]:=gu
theorem ahQ:fV 104 11 184 [.d (.s []),.bE [],.d (.i .i64 0),.d (.s []),.d (.s []),.d (.i .i64 0),.d (.i .i64 0),.d (.s []),.bE [],.bE [],.bE []]:=gu
theorem ahR:fV 105 1 8 [.d (.o .nilFunc)]:=gu
theorem ahS:fV 112 4 64 [.d (.s []),.d (.i .i64 0),.d (.s []),.bE []]:=gu
theorem ahT:fV 119 3 40 [.bE [],.d (.i .i64 0),.d (.i .i64 0)]:=gu
theorem ahU:fV 124 11 184 [.d (.s []),.bE [],.d (.i .i64 0),.d (.s []),.d (.s []),.d (.i .i64 0),.d (.i .i64 0),.d (.s []),.bE [],.bE [],.bE []]:=gu
theorem ahV:fV 127 1 8 [.d (.o .nilFunc)]:=gu
theorem ahW:fV 128 1 8 [.d (.o .nilFunc)]:=gu
theorem ahX:fV 129 1 8 [.d (.o .nilFunc)]:=gu
theorem ahY:fV 130 1 8 [.d (.o .nilFunc)]:=gu
theorem ahZ:fV 150 1 8 [.d (.o (.map none))]:=gu
theorem ah0:fV 153 1 8 [.d (.o .nilFunc)]:=gu
theorem ah1:fV 171 1 8 [.d (.o .nilFunc)]:=gu
theorem ah2:fV 176 1 24 [.bE []]:=gu
theorem ah3:fV 180 1 8 [.d (.o .nilFunc)]:=gu
theorem ah4:fV 187 1 16 [.d (.o .nilIface)]:=gu
theorem ah5:fV 190 1 8 [.d (.o .nilFunc)]:=gu
theorem ah6:fV 193 1 8 [.d (.o .nilFunc)]:=gu
theorem ah7:fV 200 1 24 [.bE []]:=gu
theorem laidOut:laidOutB prog=true:=by kernel_rfl
theorem own:ownKnob prog.godebug=none:=by kernel_rfl
attribute [go_sem] ty1 underlying1 ty2 underlying2 ty3 underlying3 ty4 underlying4 ahP ty5 underlying5 ty9 underlying9 aiX underlying12 aiY underlying20 aiZ underlying21 ai0 underlying22 ai1 underlying23 ai2 underlying24 ai3 underlying25 ai4 underlying26 ai5 underlying27 ai6 underlying29 ai7 underlying30 ai8 underlying31 ai9 underlying32 aja underlying33 ajb underlying34 ajc underlying35 ajd underlying36 aje underlying37 ajf underlying39 ajg underlying40 ajh underlying41 aji underlying42 ajj underlying44 ajk underlying46 ajl underlying48 ajm underlying49 ajn underlying50 ajo underlying54 ajp underlying55 ajq underlying56 ajr underlying63 ajs underlying64 ajt underlying65 aju underlying69 ajv underlying70 ajw underlying71 ajx underlying75 ajy underlying91 ajz underlying92 ajA underlying93 ajB underlying95 ahQ underlying104 ahR underlying105 ahS underlying112 ahT underlying119 ahU underlying124 ahV underlying127 ahW underlying128 ahX underlying129 ahY underlying130 ahZ underlying150 ah0 underlying153 ah1 underlying171 ah2 underlying176 ah3 underlying180 ah4 underlying187 ah5 underlying190 ah6 underlying193 ah7 underlying200
end Go.Proofs.YtnceiannponbjaaGreatDoor.Fa
namespace Go.Ab
mutual
def aC.cnt:aC->Nat
 | .mk _ _ _ _ _ a b=>1+(aC.dD a+aP.dD b)
def aC.dD:List aC->Nat
 |[]=>0
 |x::xs=>x.cnt+aC.dD xs
def aP.cnt:aP->Nat
 | .mk _ _ b=>b.cnt
def aP.dD:List aP->Nat
 |[]=>0
 |x::xs=>x.cnt+aP.dD xs
end
theorem aC.nu(x:aC):x.cnt=1+(aC.dD x.fArgs+aP.dD x.aO):=by cases x;rw[aC.cnt];rfl
theorem aP.nu(x:aP):x.cnt=x.fBody.cnt:=by cases x;rw[aP.cnt];rfl
theorem aC.kK{xs:List aC}{i:Nat}(hi:i<xs.length):aC.dD (xs.drop i)=xs[i].cnt+aC.dD (xs.drop (i+1)):=by rw[List.drop_eq_getElem_cons hi,aC.dD]
theorem aP.kK{xs:List aP}{i:Nat}(hi:i<xs.length):aP.dD (xs.drop i)=xs[i].fBody.cnt+aP.dD (xs.drop (i+1)):=by rw[List.drop_eq_getElem_cons hi,aP.dD,aP.nu]
theorem aC.zY(x:aC):x.fArgs.length+bB (x.fArgs.map aC.enc)<=x.sz/\x.aO.length+bB (x.aO.map aP.enc)<=x.sz:=by
 simp only[aC.sz,aC.aB,bL,bZ,D.sz,List.length_map];omega
theorem aP.LD(x:aP):x.fBody.sz<=x.sz:=by
 simp only[aP.sz,aP.aB,aC.sz,bL,bZ,D.sz,List.length_map];omega
mutual
theorem aC.jT:∀x:aC,x.cnt<=1+x.sz
 | .mk k t n m ty a b=>by
   have h1:=aC.uW a;have h2:=aP.uW b;rw[aC.cnt];simp only[aC.sz,aC.aB,bL,bZ,D.sz,List.length_map,aC.fArgs,aC.aO];omega
theorem aC.uW:∀xs:List aC,aC.dD xs<=xs.length+bB (xs.map aC.enc)
 |[]=>by simp[aC.dD]
 |x::xs=>by
  have h1:=aC.jT x;have h2:=aC.uW xs;rw[aC.dD,List.length_cons,List.map_cons,bB,aC.dz];omega
theorem aP.jT:∀x:aP,x.cnt<=1+x.sz
 | .mk c v b=>by
   have h1:=aC.jT b;have h2:=aP.LD (.mk c v b);rw[aP.cnt];simp only[aP.fBody] at h2;omega
theorem aP.uW:∀xs:List aP,aP.dD xs<=xs.length+bB (xs.map aP.enc)
 |[]=>by simp[aP.dD]
 |x::xs=>by
  have h1:=aP.jT x;have h2:=aP.uW xs;rw[aP.dD,List.length_cons,List.map_cons,bB,aP.dz];omega
end
theorem zZ:∀n:Nat,∀x:aC,SizeOf.sizeOf x<n->x.sz<=4194304->aJ prog 175 [x.v] (.c (.d (.i .i64 x.cnt)))
 |0=>fun x h=>by omega
 |n+1=>by
  have ih:=zZ n;intro x hn hsz S;have jA:=aC.iI x;have Dm:=aC.uU x;have hp:=aC.zY x;have hc:=aC.jT x;have he:=aC.nu x;refine zcx [.tmp 2] func175 ntmps175 ?_;simp -implicitDefEqProofs (disch:=omega) only[go_sem]
  refine bF (ι:=Nat×Nat) zmx rfl [1,3,9,10,11] (fun y=>[.c (.ptr (0,0) 0),.c (.d (.i .i64 y.2)),.c (.d (.sl (x.fArgs.map aC.enc))),.c (.d (.i .i64 x.fArgs.length)),.c (.d (.i .i64 y.1))]) (fun y=>[.box (x.enc.map .d)]::S)
   (fun y=>y.1<=x.fArgs.length/\x.cnt=y.2+aC.dD (x.fArgs.drop y.1)+aP.dD x.aO) (fun y=>x.fArgs.length-y.1) (0,1) rfl ?_ ⟨Nat.zero_le _,by simp only[List.drop_zero];omega⟩ ?_
  ·simp -implicitDefEqProofs (disch:=omega) only[go_sem]
  rintro⟨i,c⟩ ⟨p1,p2⟩;simp only at p1 p2;simp -implicitDefEqProofs (disch:=omega) only[go_sem]
  with_reducible refine aD (fun hb=> ?_) (fun hb=> ?_)<;>have h:=hb<;>(try simp only[wf_preprocess] at h)<;>simp -implicitDefEqProofs (disch:=omega) only[go_sem,hb]<;>(repeat(with_reducible refine And.intro ?_ ?_;focus first|omega|rfl|assumption|exact⟨_,rfl,rfl⟩|(simp;omega)|(simp;done)))
  ·have hi:i<x.fArgs.length:=by omega
   have hx:x.fArgs[i].sz<=bB (x.fArgs.map aC.enc):=gT (List.mem_map_of_mem (List.getElem_mem hi));rw[aC.kK hi] at p2
   (repeat(with_reducible refine And.intro ?_ ?_;focus first|omega|rfl|assumption|exact⟨_,rfl,rfl⟩|(simp;omega)|(simp;done)))
   refine aA (ih x.fArgs[i] (by have:=List.sizeOf_lt_of_mem (List.getElem_mem hi);omega) (by omega)) ?_;simp -implicitDefEqProofs (disch:=omega) only[go_sem]<;>(repeat(with_reducible refine And.intro ?_ ?_;focus first|omega|rfl|assumption|exact⟨_,rfl,rfl⟩|(simp;omega)|(simp;done)));rw[show(c:Int)+(x.fArgs[i].cnt:Int)=((c+x.fArgs[i].cnt:Nat):Int) by omega];exact dO 1 (by decide) (i+1,c+x.fArgs[i].cnt) (by simp only;omega) rfl rfl rfl rfl ⟨by simp only;omega,by simp only;omega⟩
  have hi:i=x.fArgs.length:=by omega
  rw[hi,List.drop_length,aC.dD] at p2
  refine bF (ι:=Nat×Nat) zmx rfl [3,21,22,23] (fun y=>[.c (.d (.i .i64 y.2)),.c (.d (.sl (x.aO.map aP.enc))),.c (.d (.i .i64 x.aO.length)),.c (.d (.i .i64 y.1))]) (fun y=>[.box (x.enc.map .d)]::S)
   (fun y=>y.1<=x.aO.length/\x.cnt=y.2+aP.dD (x.aO.drop y.1)) (fun y=>x.aO.length-y.1) (0,c) rfl ?_ ⟨Nat.zero_le _,by simp only[List.drop_zero];omega⟩ ?_
  ·simp -implicitDefEqProofs (disch:=omega) only[go_sem]
  clear p1 p2 hb h hi i;rintro⟨i,d⟩ ⟨p1,p2⟩;simp only at p1 p2;simp -implicitDefEqProofs (disch:=omega) only[go_sem]
  with_reducible refine aD (fun hb=> ?_) (fun hb=> ?_)<;>have h:=hb<;>(try simp only[wf_preprocess] at h)<;>simp -implicitDefEqProofs (disch:=omega) only[go_sem,hb]<;>(repeat(with_reducible refine And.intro ?_ ?_;focus first|omega|rfl|assumption|exact⟨_,rfl,rfl⟩|(simp;omega)|(simp;done)))
  ·have hi:i<x.aO.length:=by omega
   have hx:x.aO[i].sz<=bB (x.aO.map aP.enc):=gT (List.mem_map_of_mem (List.getElem_mem hi));have hy:=aP.LD x.aO[i];have hs:=List.sizeOf_lt_of_mem (List.getElem_mem hi);have hs':=aP.sU x.aO[i];rw[aP.kK hi] at p2
   (repeat(with_reducible refine And.intro ?_ ?_;focus first|omega|rfl|assumption|exact⟨_,rfl,rfl⟩|(simp;omega)|(simp;done)))
   refine aA (ih x.aO[i].fBody (by omega) (by omega)) ?_;simp -implicitDefEqProofs (disch:=omega) only[go_sem]<;>(repeat(with_reducible refine And.intro ?_ ?_;focus first|omega|rfl|assumption|exact⟨_,rfl,rfl⟩|(simp;omega)|(simp;done)));rw[show(d:Int)+(x.aO[i].fBody.cnt:Int)=((d+x.aO[i].fBody.cnt:Nat):Int) by omega];exact dO 1 (by decide) (i+1,d+x.aO[i].fBody.cnt) (by simp only;omega) rfl rfl rfl rfl ⟨by simp only;omega,by simp only;omega⟩
  ·have hi:i=x.aO.length:=by omega
   rw[hi,List.drop_length,aP.dD] at p2;exact int_eq (by omega)
theorem JK(x:aC)(hsz:x.sz<=4194304):aJ prog 175 [x.v] (.c (.d (.i .i64 x.cnt))):=zZ _ x (Nat.lt_succ_self _) hsz
end Go.Ab