/-
  SEVERAL TEXTS IN ONE (merged by program): contracts and models, each with its own heading.
-/
import Derived.Test.YtnmjbebcebbmfaaGreatPartHibB
import Derived.Carry
import Derived.WideKeyArgs
import Derived.ProofKit
import Derived.OpenShut
import Derived.WalkKit
import Derived.Test.YtnmjbebcebbmfaaGreatChecked
import Derived.Eval
import Derived.KernelRfl
open Go.Proofs Go.Proofs.Tryz
theorem Go.Ab.zmx:Go.Proofs.Tryz.prog.follows .mixedOrders=true:=Go.Proofs.Tryz.checked.mixed
open Go Go.Ab in
theorem Go.Ab.zcx{N:Nat}{S:Store}{f:FuncId}{fn:Func}{c:Code}{args:List V}{post:V->Store->Prop}(rs:List ResultVar)(hf:Tryz.prog.funcs[f]? =some fn)(hN:fn.ntmps=N)(h:CW Tryz.prog N c (GJ Tryz.prog rs post) ⟨jZ (args.map (V.up 1)) 0,[]::S⟩)(hb:fn.body=some c:=by exact rfl)(hn:(fn.name== "runtime.NumGoroutine")=false:=by exact rfl)(hr:fn.results.toList=rs:=by exact rfl)(hl:Nat.ble args.length N=true:=by exact rfl)(hok:codeOk N c=true:=by exact rfl):bK Tryz.prog f args S post:=aC (rs:=rs) zmx hf hN hb hn hr hl hok h
set_option linter.unusedSimpArgs false
set_option linter.unusedVariables false
set_option maxRecDepth 4000
namespace Go.Ab
section
variable {P:Program} {S S':Store} {N:Nat} {s:St}
theorem aQ{α:Type}{fr:List α}{S:List (List α)}{l j:Nat}:aN (fr::S) (1+l,j)=aN S (l,j):=by rw[dT,bB]
theorem dh{α:Type}{fr:List α}{S:List (List α)}{l j:Nat}{x:α}:aP (fr::S) (1+l,j) x=fr::aP S (l,j) x:=by rw[dT,aP]
theorem aa3{n l j:Nat}:uM n (l,j)=(n+l,j):=rfl
theorem Qq{l j:Nat}{es:List (List D)}:C.ret (.bM (1+l,j) es)=some (.bM (l,j) es):=by
 rw[dT];show C.down 1 (.bM (l+1,j) es)=_;simp[C.down]
theorem ret_tsl_0{j:Nat}{es:List (List D)}:C.ret (.bM (0,j) es)=some (.d (.sl es)):=rfl
theorem acF{x:D}:C.ret (.d x)=some (.d x):=rfl
theorem Zp:C.ret .any=some .any:=rfl
theorem Zq{es:List (List D)}:C.ret (.bF es)=some (.bF es):=rfl
theorem Zr{n:Nat}{es:List (List D)}:C.ret (.kF n es)=some (.kF n es):=rfl
theorem WI{cs:List D}:C.ret (.iY cs)=some (.iY cs):=rfl
theorem Zt{l j off:Nat}:C.ret (.ptr (1+l,j) off)=some (.ptr (l,j) off):=by
 rw[dT];show C.down 1 (.ptr (l+1,j) off)=_;simp[C.down]
theorem Zu{j:Nat}{es es':List (List D)}{k:Key}:C.jT j es (.bM k es')=.bM k es':=rfl
theorem acG{x:D}:C.pz (.d x)=.d x:=rfl
theorem Zv:C.pz .any=.any:=rfl
theorem Zw{k:Key}{off:Nat}:C.pz (.ptr k off)=.ptr k off:=rfl
theorem aa4{f:Nat}{caps:List (Key×Nat)}:C.pz (.fn f caps)=.fn f caps:=rfl
theorem Zx{k:Key}:C.pz (.eP k)=.eP k:=rfl
theorem WJ{cs:List D}:C.pz (.iY cs)=.iY cs:=rfl
theorem acH{j:Nat}{es:List (List D)}{x:D}:C.jT j es (.d x)=.d x:=rfl
theorem Zy{j:Nat}{es:List (List D)}:C.jT j es .any=.any:=rfl
theorem Zz{j:Nat}{es es':List (List D)}:C.jT j es (.bF es')=.bF es':=rfl
theorem ZA{j:Nat}{es:List (List D)}{k:Key}{off:Nat}:C.jT j es (.ptr k off)=.ptr k off:=rfl
theorem aa5{j:Nat}{es:List (List D)}{f:Nat}{caps:List (Key×Nat)}:C.jT j es (.fn f caps)=.fn f caps:=rfl
theorem ZB{j n:Nat}{es es':List (List D)}:C.jT j es (.kF n es')=.kF n es':=rfl
theorem ZC{n:Nat}{es:List (List D)}:C.pz (.kF n es)=.kF n es:=rfl
theorem WK{j:Nat}{es:List (List D)}{cs:List D}:C.jT j es (.iY cs)=.iY cs:=rfl
theorem ZE{j i:Nat}{es:List (List D)}:C.jT j es (.eP (0,i))=if i=j then .d (.sl es) else .eP (0,i):=rfl
theorem bK.WL{f:FuncId}(i:Nat){es:List (List D)}{aM:Nat}{args:List V}{post post':V->Store->Prop}(hi:args[i]? =some (.c (.bF es)))(hes:∀e∈es,e.length=aM)
 (h:bK P f ((args.map (V.up 1)).set i (.c (.bM (0,0) es))) ([.tok aM es]::S) post)
 (hp:∀r fr S',post r (fr::S')->∃r',r.ret=some r'/\post' r' S'):bK P f args S post':=by
 refine⟨h.1,fun w σ β vs hS hargs=> ?_⟩;obtain⟨v,hv0,⟨hd,ad,n,hval⟩,hone⟩:=hargs.2 i _ hi
 ·have hn:n=es.length:=by rw[hval] at hd;cases hd<;>rfl
  have hg:Grow w σ w σ:=Grow.refl hS.live
  obtain⟨hS',hk,hst⟩:=hS.Yp.push (o:=.tok aM es) (h:=v) hg rfl ⟨hd,hes,ad,n,by rw[hval,hn],by omega,.inl hn⟩ (fun b hb=>by
   rw[hval,hn] at hb
   cases ad<;>simp[owns,blk] at hb)
  have hargs':mX w σ ([.tok aM es]::S) ([v]::β) ((args.map (V.up 1)).set i (.c (.bM (0,0) es))) vs:=by
   refine⟨by have:=hargs.1;simpa using this,fun j x hx=> ?_⟩;rw[cM] at hx;by_cases e:i=j
   ·subst e;rw[if_pos rfl] at hx;split at hx
    ·cases hx;refine⟨v,hv0,⟨hd,.tok aM es,rfl,fun a b e=> ?_⟩,hone⟩;obtain⟨_,rfl⟩:=jP (lab:=none) e;exact⟨aw _,fun _=>rfl⟩
    ·cases hx
   ·rw[if_neg e,aV] at hx
    cases ha:args[j]? with
    |none=>rw[ha] at hx;cases hx
    |some y=>
     rw[ha] at hx;cases hx;obtain⟨u,hu,hr⟩:=hargs.2 j y ha;exact⟨u,hu,BM (S:=[.tok aM es]::S) (β:=[v]::β) 1 hr⟩
  refine(h.2 w σ ([v]::β) vs hS' hargs').mono fun e w' ⟨v',r,S1,σ',β',he,hS1,hk1,y8,hr1,hpost⟩=> ?_
  have hO:∀b,Own ([.tok aM es]::S) ([v]::β) b->Own S β b:=by
   rintro b ⟨⟨l,j⟩,o,hv,h1,h2,h3⟩
   cases l with
   |zero=>
    rw[aJ] at h1 h2
    cases j with
    |zero=>
     cases h1;cases h2;rw[hval,hn] at h3;cases ad<;>simp[owns,blk] at h3
    |succ j=>simp at h1
   |succ l=>rw[bB] at h1 h2;exact⟨(l,j),o,hv,h1,h2,h3⟩
  cases S1 with
  |nil=>
   obtain⟨o',h1,_⟩:=hk1 (0,0) _ rfl;rw[kK] at h1;cases h1
  |cons fr S1=>
   cases β' with
   |nil=>have:=hS1.shape.1;simp at this
   |cons bo bΩ=>
    obtain⟨r',hr',hp'⟩:=hp r fr S1 hpost;refine⟨v',r',S1,σ',bΩ,he,hS1.BN,hk1.drop 1,⟨y8.size,y8.os,y8.output,fun b hb ho=>y8.far b hb (fun x=>ho (hO b x)),y8.near,fun b hb=>(y8.own b (qY hb)).imp (hO b) id⟩,Kv hr' hr1,hp'⟩
end
attribute [go_sem] aQ dh aa3 Qq ret_tsl_0 acF Zp Zq WI Zt Zu acG Zv Zw aa4 Zx WJ acH Zy Zz ZA aa5 WK ZE Zr ZB ZC
section
variable {P:Program} {S S':Store} {N:Nat} {s:St}
theorem AR(S:Store)(β:Hs)(k:Key):Keep S β (aP S k .dead) β:=by
 intro k' o ho;by_cases e:k=k'
 ·subst e;exact⟨.dead,bP _ _ _ _ ho,.inl rfl⟩
 ·exact⟨o,by rw[dD _ _ _ _ e];exact ho,iU.refl _ _⟩
theorem uX{k k':Key}{o:Obj}(h:aN (aP S k .dead) k'=some o):(k=k'/\o=.dead)\/aN S k'=some o:=by
 by_cases e:k=k'
 ·subst e
  cases hg:aN S k with
  |none=>
   have:∀(S:Store)(k:Key),aN S k=none->aP S k .dead=S:=by
    intro S
    induction S with
    |nil=>intro k _;rfl
    |cons fr S ih=>
     rintro⟨l,j⟩ h
     cases l with
     |zero=>
      rw[aJ] at h;rw[aP,List.set_eq_of_length_le (List.getElem?_eq_none_iff.1 h)]
     |succ l=>rw[bB] at h;rw[aP,ih _ h]
   rw[this S k hg,hg] at h;cases h
  |some y=>
   rw[bP _ _ _ _ hg] at h;cases h;exact .inl ⟨rfl,rfl⟩
 ·rw[dD _ _ _ _ e] at h;exact .inr h
theorem K5(x:Obj):∀(S:Store)(k:Key),(aP S k x).length=S.length
 |[],k=>rfl
 |fr::S,(0,j)=>by rw[aP];simp
 |fr::S,(l+1,j)=>by rw[aP,aa,K5 x S,aa]
theorem Od(x:Obj):∀(S:Store)(k:Key)(l:Nat)(fr:List Obj),(aP S k x)[l]? =some fr->∃xK,S[l]? =some xK/\xK.length=fr.length
 |[],k,l,fr,h=>by simp[aP] at h
 |f::S,(0,j),0,fr,h=>by rw[aP] at h;simp at h;subst h;exact⟨f,rfl,by simp⟩
 |f::S,(0,j),l+1,fr,h=>by rw[aP] at h;exact⟨fr,by simpa using h,rfl⟩
 |f::S,(i+1,j),0,fr,h=>by rw[aP] at h;exact⟨fr,by simpa using h,rfl⟩
 |f::S,(i+1,j),l+1,fr,h=>by
  rw[aP] at h;simpa using Od x S (i,j) l fr (by simpa using h)
theorem WM{w:World}{σ:Nat->Nat}{β:Hs}(k:Key)(hS:dM w σ S β):dM w σ (aP S k .dead) β:=by
 have hn:dR w σ w σ:=(Grow.refl hS.live).near;refine⟨fun k' o ho=> ?_,fun k1 k2 o1 o2 h1 h2 b e1 e2 e3 e4 e5 e6=> ?_,⟨by rw[K5];exact hS.shape.1,fun l fr hl=> ?_⟩,hS.live,hS.qp⟩
 ·rcases uX ho with⟨rfl,rfl⟩|ho'
  ·cases hg:aN S k with
   |none=>
    exfalso;have:=AR S β k;rcases uX (S:=S) (k:=k) (k':=k) ho with⟨_,_⟩|h
    ·
     have hne:aN (aP S k .dead) k=none:=by
      have:∀(S:Store)(k:Key),aN S k=none->aN (aP S k Obj.dead) k=none:=by
       intro S
       induction S with
       |nil=>intro k _;rw[aP,kK]
       |cons fr S ih=>
        rintro⟨l,j⟩ h
        cases l with
        |zero=>
         rw[aJ] at h;rw[aP,aJ,List.set_eq_of_length_le (List.getElem?_eq_none_iff.1 h)];exact h
        |succ l=>rw[bB] at h;rw[aP,bB];exact ih _ h
      exact this S k hg
     rw[hne] at ho;cases ho
    ·rw[hg] at h;cases h
   |some y=>
    obtain⟨h,hh,_⟩:=hS.obj k y hg;exact⟨h,hh,trivial⟩
  ·obtain⟨h,hh,hr⟩:=hS.obj k' o ho';exact⟨h,hh,hr.mono hn ((AR S β k).drop k'.1) fun b _=>⟨rfl,rfl⟩⟩
 ·rcases uX e1 with⟨_,rfl⟩|CO
  ·cases e3
  ·rcases uX e4 with⟨_,rfl⟩|e4'
   ·cases e6
   ·exact hS.apart k1 k2 o1 o2 h1 h2 b CO e2 e3 e4' e5 e6
 ·obtain⟨xK,h1,h2⟩:=Od _ S k l fr hl;obtain⟨gr,h3,h4⟩:=hS.shape.2 l xK h1;exact⟨gr,h3,by omega⟩
def Less(r r':V):Prop:=∀w σ S β v,cu w σ S β r v->cu w σ S β r' v
theorem Less.refl(r:V):Less r r:=fun _ _ _ _ _ h=>h
theorem bK.kill{f:FuncId}{args:List V}{post post':V->Store->Prop}(k:Key)(h:bK P f args S post)(hp:∀r S',post r S'->∃r',Less r r'/\(post' r' S'\/post' r' (aP S' k .dead))):bK P f args S post':=by
 refine⟨h.1,fun w σ β vs hS hv=>(h.2 w σ β vs hS hv).mono fun e w' ⟨v,r,S',σ',β',h1,h2,h3,h4,h5,h6⟩=> ?_⟩;obtain⟨r',hl,hp|hp⟩:=hp r S' h6
 ·exact⟨v,r',S',σ',β',h1,h2,h3,h4,hl _ _ _ _ _ h5,hp⟩
 ·have hkeep:=AR S' β' k;refine⟨v,r',aP S' k .dead,σ',β',h1,WM k h2,h3.trans hkeep,⟨h4.size,h4.os,h4.output,h4.far,h4.near,fun b hb=> ?_⟩,hl _ _ _ _ _ (h5.mono (Grow.refl h2.live).near hkeep),hp⟩;obtain⟨k',o,hv,e1,e2,e3⟩:=hb;rcases uX e1 with⟨_,rfl⟩|CO
  ·cases e3
  ·exact h4.own b ⟨k',o,hv,CO,e2,e3⟩
theorem bW{x y:Obj}:∀(S:Store)(k:Key),aP (aP S k x) k y=aP S k y
 |[],k=>rfl
 |fr::S,(0,j)=>by rw[aP,aP,aP];simp
 |fr::S,(l+1,j)=>by rw[aP,aP,aP,bW S]
theorem xL{x:Obj}:∀(S:Store)(k:Key),aN S k=some x->aP S k x=S
 |[],k,_=>rfl
 |fr::S,(0,j),h=>by
  rw[aJ] at h;rw[aP];congr 1
  exact cy fun i=>by
   rw[cM];split
   ·rename_i e;subst e;obtain⟨h1,h2⟩:=ai.1 h;simp[h1,h2]
   ·rfl
 |fr::S,(l+1,j),h=>by rw[bB] at h;rw[aP,xL S _ h]
def qy:List Bool->List V->List V
 |true::m,v::vs=>v::qy m vs
 |false::m,v::vs=>v.pz::qy m vs
 |[],vs=>vs.map V.pz
 |_,[]=>[]
theorem Dx:∀(m:List Bool)(vs:List V),vs.length=(qy m vs).length
 |true::m,v::vs=>by rw[qy,aa,aa,Dx m vs]
 |false::m,v::vs=>by rw[qy,aa,aa,Dx m vs]
 |[],vs=>by simp[qy]
 |true::m,[]=>rfl
 |false::m,[]=>rfl
theorem GK:∀(m:List Bool)(vs:List V)(j:Nat)(x y:V),vs[j]? =some x->(qy m vs)[j]? =some y->y=x\/y=x.pz
 |true::m,v::vs,0,x,y,h1,h2=>by rw[qy] at h2;cases h1;cases h2;exact .inl rfl
 |false::m,v::vs,0,x,y,h1,h2=>by rw[qy] at h2;cases h1;cases h2;exact .inr rfl
 |true::m,v::vs,j+1,x,y,h1,h2=>by rw[qy] at h2;exact GK m vs j x y h1 h2
 |false::m,v::vs,j+1,x,y,h1,h2=>by rw[qy] at h2;exact GK m vs j x y h1 h2
 |[],vs,j,x,y,h1,h2=>by rw[qy,aV,h1] at h2;cases h2;exact .inr rfl
 |true::m,[],j,x,y,h1,h2=>by simp at h1
 |false::m,[],j,x,y,h1,h2=>by simp at h1
theorem bK.qy(m:List Bool){f:FuncId}{args:List V}{post:V->Store->Prop}(h:bK P f (Go.Ab.qy m args) S post):bK P f args S post:=
 h.weaken (Dx m args) fun j x y hx hy w σ β v hr=>by
  rcases GK m args j x y hx hy with e|e
  ·rw[e];exact hr
  ·rw[e];exact KH hr
theorem dJ(m:List Bool){dr:Option Nat}{f:FuncId}{args:List V}{dst:Option Nat}{K:St->Prop}{r:V}{S1:Store}(hm:Yv dr=true)(h:bK P f (qy m args) s.st (fun r' S'=>r'=r/\S'=S1))(hK:K (St.put ⟨s.tm,S1⟩ dst r)):dQ P dr f args s dst K:=
 bq hm (h.qy m) hK
end
theorem aT.less{P:Program}{f:FuncId}{args:List V}{r r':V}(h:aT P f args r)(hl:Less r r'):aT P f args r':=
 fun S=>(h S).kill (0,0) fun r1 S' e=>⟨r',by rw[e.1];exact hl,.inl ⟨rfl,e.2⟩⟩
theorem K6{es:List (List D)}:Less (.c (.bF es)) (.c (.d (.sl es))):=fun w σ S β v h=>⟨h.1.1,h.2⟩
section
variable {P:Program} {S:Store}
def gG(n:Nat)(caps:List (Key×Nat)):List (Key×Nat):=caps.map fun y=>(uM n y.1,y.2)
theorem Qr{n:Nat}:gG n []=[]:=rfl
theorem Nf{n l j off:Nat}{caps:List (Key×Nat)}:gG n (((l,j),off)::caps)=((n+l,j),off)::gG n caps:=rfl
theorem Il{m n:Nat}{caps:List (Key×Nat)}:gG m (gG n caps)=gG (m+n) caps:=by
 unfold gG;rw[List.map_map];refine cG fun y _=> ?_;simp only[Function.comp,uM,Prod.mk.injEq,and_true];omega
theorem Ng{n m g:Nat}{caps:List (Key×Nat)}:C.refs n (.fn g (gG (m+1) caps))=true:=by
 simp only[C.refs,gG,List.all_map,ax];intro x _
 have h:0<m+1+x.1.1:=by omega
 simp[Function.comp,mQ,uM,h]
theorem K7{n:Nat}{caps:List (Key×Nat)}:((gG 1 caps).all fun x=>mQ n x.fst)=true:=Ng (m:=0) (g:=0)
theorem K8:∀(F S:Store)(l j:Nat),aN (F++S) (F.length+l,j)=aN S (l,j)
 |[],S,l,j=>by simp
 |fr::F,S,l,j=>by
  rw[az,aa,show F.length+1+l=(F.length+l)+1 from by omega,bB,K8 F S l j]
theorem K9(x:Obj):∀(F S:Store)(l j:Nat),aP (F++S) (F.length+l,j) x=F++aP S (l,j) x
 |[],S,l,j=>by simp
 |fr::F,S,l,j=>by
  rw[az,aa,show F.length+1+l=(F.length+l)+1 from by omega,aP,K9 x F S l j,az]
theorem TK{F S:Store}{j:Nat}:aN (F++S) (F.length,j)=aN S (0,j):=K8 F S 0 j
theorem TL{F S:Store}{j:Nat}{x:Obj}:aP (F++S) (F.length,j) x=F++aP S (0,j) x:=K9 x F S 0 j
attribute [go_sem] TK TL Qr Nf
def jB(P:Program)(g:Nat)(caps:List (Key×Nat))(S:Store)(xs:List V)(r:V):Prop:=
 ∀F:Store,bK P g (xs++wS (gG F.length caps)) (F++S) (fun r' S'=>r'=r/\S'=F++S)
theorem jB.push{g:Nat}{caps:List (Key×Nat)}{xs:List V}{r:V}(h:jB P g caps S xs r)(fr:List Obj):jB P g (gG 1 caps) (fr::S) xs r:=fun F=>by
 have:=h (F++[fr]);rw[Il];simpa using this
theorem jB.GL{g:Nat}{xs:List V}{r:V}(h:aT P g xs r):jB P g [] S xs r:=fun F=>by
 have:=h (F++S);simpa [gG,wS] using this
def zn(P:Program)(g:Nat)(caps:List (Key×Nat)){α X:Type}(st:α->Store)(I:Nat->α->Prop)(f:α->X->α)(xv:X->V)(ok:X->Prop):Prop:=
 ∀n a u,I (n+1) a->ok u->I n (f a u)/\∀F:Store,bK P g (xv u::wS (gG F.length caps)) (F++st a) (fun r' S'=>r'=.gq []/\S'=F++st (f a u))
theorem zn.push{g:Nat}{caps:List (Key×Nat)}{α X:Type}{st:α->Store}{I:Nat->α->Prop}{f:α->X->α}{xv:X->V}{ok:X->Prop}(h:zn P g caps st I f xv ok)(fr:List Obj):
 zn P g (gG 1 caps) (fun a=>fr::st a) I f xv ok:=fun n a u ha hu=>⟨(h n a u ha hu).1,fun F=>by
 have:=(h n a u ha hu).2 (F++[fr]);rw[Il]
 simpa using this⟩
theorem uY{N:Nat}{c:Code}{Q:Exit->St->Prop}{tm:List (Nat×V)}{own:List Obj}{Ω:Store}(j i aM:Nat)(es:List (List D))(cs:List C)(hj:own[j]? =some (.box cs))(hi:cs[i]? =some (.bF es))(hes:∀e∈es,e.length=aM)
 (h:AW P N c Q ⟨tm,(own.set j (.box (cs.set i (.bM (0,own.length) es)))++[.tok aM es])::Ω⟩):AW P N c Q ⟨tm,own::Ω⟩:=by
 refine lK h fun a w σ β hR=> ?_;obtain⟨bo,bΩ,rfl,hlen⟩:=frames hR;have hjl:=(ai.1 hj).1
 have hg0:aN (own::Ω) (0,j)=some (.box cs):=by rw[aJ];exact hj
 obtain⟨hb,yI,hr⟩:=hR.S.obj (0,j) _ hg0;obtain⟨b,cv,ty,rfl,hbc,hσ,hcs⟩:=hr;have hcs:dS w σ (own::Ω) (bo::bΩ) cs cv.toList:=hcs;obtain⟨v,hv,⟨hd,ad,n,hval⟩,hone⟩:=hcs.2 i _ hi
 have hn:n=es.length:=by rw[hval] at hd;cases hd<;>rfl
 have hg:Grow w σ w σ:=Grow.refl hR.S.live
 obtain⟨hS',hk,hst⟩:=hR.S.push (o:=.tok aM es) (h:=v) hg hlen ⟨hd,hes,ad,n,by rw[hval,hn],by omega,.inl hn⟩ (fun b hb=>by
  rw[hval,hn] at hb
  cases ad<;>simp[owns,blk] at hb)
 have hk1:aN ((own++[.tok aM es])::Ω) (0,j)=some (.box cs):=gu _ _ _ _ _ hg0;have yN:aN ((bo++[v])::bΩ) (0,j)=some (.pointer (some ⟨b,0,none⟩)):=gu _ _ _ _ _ yI;have hko:iU (.box cs) (some (Value.pointer (some ⟨b,0,none⟩))) (.box (cs.set i (.bM (0,own.length) es))) (some (Value.pointer (some ⟨b,0,none⟩))):=.inr ⟨⟨_,rfl⟩,rfl⟩
 have hK:Keep ((own++[.tok aM es])::Ω) ((bo++[v])::bΩ) (aP ((own++[.tok aM es])::Ω) (0,j) (.box (cs.set i (.bM (0,own.length) es)))) (aP ((bo++[v])::bΩ) (0,j) (.pointer (some ⟨b,0,none⟩))):=by
  intro k1 o1 e1;by_cases e:k1=(0,j)
  ·subst e;rw[hk1] at e1;cases e1;exact⟨_,bP _ _ _ _ hk1,by rw[yN,bP _ _ _ _ yN];exact hko⟩
  ·exact⟨o1,(dD _ _ _ _ (Ne.symm e)).trans e1,by rw[dD _ _ _ _ (Ne.symm e)];exact .refl _ _⟩
 have hne:(0,own.length)≠(0,j):=fun e=>by injection e with _ e;omega
 obtain⟨hS2,hk2,sD⟩:=hS'.set (w':=w) (σ':=σ) (o':=.box (cs.set i (.bM (0,own.length) es))) (h':=.pointer (some ⟨b,0,none⟩)) hk1 yN (aw _) rfl rfl (dR.refl _ _) hS'.live (fun _ _ _=>⟨rfl,rfl⟩) hko
  ⟨b,cv,ty,rfl,hbc,hσ,by
    refine⟨by rw[cn];exact hcs.1,fun m x hm=> ?_⟩;rw[cM] at hm;by_cases e:i=m
    ·subst e;rw[if_pos rfl] at hm;split at hm
     ·cases hm;refine⟨v,hv,⟨hd,.tok aM es,?_,fun a1 b1 e1=> ?_⟩,hone⟩
      ·show aN (aP _ (0,j) _) (0,own.length)=_;rw[dD _ _ _ _ (Ne.symm hne),bL]
      ·obtain⟨_,rfl⟩:=jP (lab:=none) e1;refine⟨aw _,fun _=> ?_⟩;show aN (aP _ (0,j) _) (0,own.length)=_;rw[dD _ _ _ _ (Ne.symm hne),<-hlen,bL]
     ·cases hm
    ·rw[if_neg e] at hm;obtain⟨u,hu,hc,ho⟩:=hcs.2 m x hm
     exact⟨u,hu,(hc.mono (dR.refl _ _) hk).mono (dR.refl _ _) hK,ho⟩⟩ (fun _ e=>.inl e)
 have est:aP ((own++[.tok aM es])::Ω) (0,j) (.box (cs.set i (.bM (0,own.length) es)))=(own.set j (.box (cs.set i (.bM (0,own.length) es)))++[.tok aM es])::Ω:=by
  rw[aP,List.set_append_left _ _ hjl]
 rw[est] at hS2 hk2 sD
 exact⟨σ,_,⟨hR.size,hR.defers,hS2,fun u=>((hR.T u).mono (dR.refl _ _) hk).mono (dR.refl _ _) hk2⟩,hst.trans sD,by
  have:=hk.trans hk2
  exact this.tail⟩
end
inductive D.Fit:D->Prop
 |b (x):Fit (.b x)
 |i (k n):Fit (.i k n)
 |s (l) (h:l.length<=9223372036854775807):Fit (.s l)
 |sl (es) (h:es.length<=9223372036854775807) (hh:∀e∈es,∀d∈e,Fit d):Fit (.sl es)
 |o (v):Fit (.o v)
def wT(cs:List D):Prop:=∀d∈cs,d.Fit
theorem wU:wT []:=fun d h=>by cases h
theorem xM{d:D}{ds:List D}:wT (d::ds)<->d.Fit/\wT ds:=by simp[wT]
theorem Nh{a b:List D}:wT (a++b)<->wT a/\wT b:=by
 simp only[wT,cR];exact⟨fun h=>⟨fun d hd=>h d (.inl hd),fun d hd=>h d (.inr hd)⟩,fun h d hd=>hd.elim (h.1 d) (h.2 d)⟩
def Yx(P:Program)(W:TypeId->List D->Prop):List Field->List D->Prop
 |[],ds=>ds=[]
 |f::fs,ds=>∃a b,ds=a++b/\a.length=P.cellsOf f.type/\W f.type a/\Yx P W fs b
def WT(P:Program):Nat->TypeId->List D->Prop
 |0,_,_=>False
 |n+1,t,ds=>
  match P.underlying t with
  |some .bool=>∃b,ds=[.b b]
  |some (.int k)=>∃x,ds=[.i k x]/\(Lit.int k x).wf=true
  |some .string=>∃l,ds=[.s l]/\l.length<=9223372036854775807
  |some (.slice e)=>∃es,ds=[.sl es]/\es.length<=9223372036854775807/\∀x∈es,x.length=P.cellsOf e/\WT P n e x
  |some (.struct fs)=>Yx P (WT P n) fs.toList ds
  |_=>False
def vX(P:Program):List Field->Nat->Nat->Bool
 |[],a,b=>a==b
 |f::fs,a,b=>f.offset==a&&vX P fs (a+P.cellsOf f.type) b
def GN(P:Program)(L:List TypeId):Bool:=
 L.all fun t=>match P.underlying t with
  |some .bool|some (.int _)|some .string=>P.cellsOf t==1
  |some (.slice e)=>P.cellsOf t==1&&L.contains e&&decide (0<P.cellsOf e)
  |some (.struct fs)=>vX P fs.toList 0 (P.cellsOf t)&&fs.toList.all fun f=>L.contains f.type
  |_=>false
def jf(w:World)(b:Nat):Nat:=match w.heap[b]? with
 |some (.cells c _ _)=>c.size
 |_=>0
def nM(w:World)(ds:List D)(vs:List Value):Prop:=ds.length=vs.length/\∀(j:Nat)(d:D),ds[j]? =some d->∃v,vs[j]? =some v/\dw w (jf w) d v/\v.oneCell'=true
theorem nM.append{w:World}{a b:List D}{xs ys:List Value}(h1:nM w a xs)(h2:nM w b ys):nM w (a++b) (xs++ys):=by
 refine⟨by simp[h1.1,h2.1],fun j d hj=> ?_⟩;rw[List.getElem?_append] at hj ⊢;have:=h1.1;split at hj
 ·rw[if_pos (by omega)];exact h1.2 j d hj
 ·rw[if_neg (by omega),<-h1.1];exact h2.2 _ d hj
theorem nM.one{w:World}{d:D}{v:Value}(h:dw w (jf w) d v)(h1:v.oneCell'=true):nM w [d] [v]:=by
 refine⟨rfl,fun j x hj=> ?_⟩
 cases j with
 |zero=>cases hj;exact⟨v,rfl,h,h1⟩
 |succ j=>simp at hj
theorem La{α β:Type}(f:α->Option β):∀(l:List α)(ys:List β),l.mapM f=some ys->ys.length=l.length/\∀(j:Nat)(x:α),l[j]? =some x->∃y,f x=some y/\ys[j]? =some y
 |[],ys,h=>by
  simp at h;subst h;exact⟨rfl,fun j x hj=>by simp at hj⟩
 |a::l,ys,h=>by
  rw[cV] at h
  cases ha:f a with
  |none=>rw[ha] at h;cases h
  |some y=>
   cases hl:l.mapM f with
   |none=>rw[ha,hl] at h;cases h
   |some zs=>
    rw[ha,hl] at h;cases h;obtain⟨h1,h2⟩:=La f l zs hl;refine⟨by simp[h1],fun j x hj=> ?_⟩
    cases j with
    |zero=>cases hj;exact⟨y,ha,rfl⟩
    |succ j=>exact h2 j x hj
section
variable {H:Type} {enc:TypeId×Value->H} {P:Program} {w:World} {L:List TypeId}
theorem zo{a:Addr}{n:Nat}{vs:List Value}(hn:0<n)(h:w.cells? 0 a n=some vs):a.spot=none/\vs.length=n/\∃c t fz,w.heap[a.block]? =some (.cells c t fz)/\∀j,j<n->∃v,vs[j]? =some v/\c[a.off+j]? =some v:=by
 unfold World.cells? at h;rw[if_pos (ao _)] at h;obtain⟨h1,h2⟩:=La _ _ _ h;rw[List.length_range] at h1;obtain⟨v0,hv0,_⟩:=h2 0 0 (by simp[hn])
 have Jy:a.add 0=a:=by simp[Addr.add]
 rw[Jy] at hv0;unfold World.cell? at hv0
 cases hb:w.heap[a.block]? with
 |none=>rw[hb] at hv0;cases hv0
 |some ob=>
  rw[hb] at hv0
  cases ob with
  |map _ _=>cases hv0
  |cells c t fz=>
   have hs:a.spot=none:=by
    cases hsp:a.spot with
    |none=>rfl
    |some x=>rw[hsp] at hv0;simp at hv0
   refine⟨hs,h1,c,t,fz,rfl,fun j hj=> ?_⟩;obtain⟨v,hv,hvs⟩:=h2 j j (by simp[hj]);refine⟨v,hvs,?_⟩;unfold World.cell? at hv;by_cases hj0:j=0
   ·subst hj0;rw[Jy,hb] at hv;simp[hs] at hv;simpa using hv
   ·simp[Addr.add,hj0,hb] at hv;exact hv
  |_=>cases hv0
theorem CV{α:Type}{p:Nat->α->Prop}:∀n:Nat,(∀i,i<n->∃x,p i x)->∃l:List α,l.length=n/\∀(i:Nat)(x:α),l[i]? =some x->p i x
 |0,_=>⟨[],rfl,fun i x h=>by simp at h⟩
 |n+1,h=>by
  obtain⟨l,hl,hp⟩:=CV n fun i hi=>h i (by omega);obtain⟨x,hx⟩:=h n (by omega);refine⟨l++[x],by simp[hl],fun i y hy=> ?_⟩;rw[List.getElem?_append] at hy;split at hy
  ·exact hp i y hy
  ·rename_i hlt
   have hi:i-l.length<1:=by
    have:=(ai.1 hy).1;simpa using this
   have:i=n:=by omega
   subst this;rw[show i-l.length=0 from by omega] at hy;cases hy;exact hx
theorem TM(hc:GN P L=true){t:TypeId}(ht:t∈L):(match P.underlying t with
 |some .bool|some (.int _)|some .string=>P.cellsOf t==1
 |some (.slice e)=>P.cellsOf t==1&&L.contains e&&decide (0<P.cellsOf e)
 |some (.struct fs)=>vX P fs.toList 0 (P.cellsOf t)&&fs.toList.all fun f=>L.contains f.type
 |_=>false)=true:=ax.1 hc t ht
theorem Ni{n:Nat}{fs:List Field}{cs:List Value}:∀(off:Nat),off<=cs.length->vX P fs off cs.length=true->
 (∀f∈fs,∃ds,WT P n f.type ds/\nM w ds ((cs.drop f.offset).take (P.cellsOf f.type)))->∃ds,Yx P (WT P n) fs ds/\nM w ds (cs.drop off):=by
 induction fs with
 |nil=>
  intro off _ ht _
  have:off=cs.length:=by simpa [vX] using ht
  exact⟨[],rfl,by simp[this,nM]⟩
 |cons f fs ih=>
  intro off ho ht h;simp only[vX,aq,beq_iff_eq] at ht;obtain⟨a,ha1,ha2⟩:=h f (by simp)
  have hle:∀(fs:List Field)(o:Nat),vX P fs o cs.length=true->o<=cs.length:=by
   intro fs
   induction fs with
   |nil=>intro o h;have:o=cs.length:=by simpa [vX] using h
         omega
   |cons g gs ih=>intro o h;simp only[vX,aq] at h;have:=ih _ h.2;omega
  have hle':=hle fs _ ht.2;obtain⟨b,hb1,hb2⟩:=ih (off+P.cellsOf f.type) hle' ht.2 fun g hg=>h g (by simp[hg]);rw[ht.1] at ha2;refine⟨a++b,⟨a,b,rfl,?_,ha1,hb1⟩,?_⟩
  ·rw[ha2.1];simp;omega
  ·have:=ha2.append hb2;rw[<-List.drop_drop,db] at this;exact this
theorem AU(hc:GN P L=true){sp:Nat->Bool}{held:Bool}:∀(fuel:Nat)(t:TypeId)(cs:List Value)(x:DataW H×List MemPlace),t∈L->
 DataW.trod enc P w 0 sp held fuel t cs=some x->∃ds,WT P fuel t ds/\nM w ds cs
 |0,t,cs,x,_,h=>by simp[DataW.trod] at h
 |n+1,t,cs,x,ht,h=>by
  have hcl:=TM hc ht
  cases hu:P.underlying t with
  |none=>rw[hu] at hcl;cases hcl
  |some u=>
   rw[hu] at hcl
   cases u with
   |bool=>
    obtain⟨b,rfl,_⟩:=DataW.trod_bool hu h;exact⟨[.b b],by simp only[WT,hu];exact⟨b,rfl⟩,nM.one (.b b) rfl⟩
   |int k=>
    obtain⟨m,rfl,_,hw⟩:=DataW.trod_int hu h;exact⟨[.i k m],by simp only[WT,hu];exact⟨m,rfl,hw⟩,nM.one (.i k m) rfl⟩
   |string=>
    obtain⟨s,rfl,_,hs⟩:=DataW.trod_string hu h
    have hl:s.data.toList.length<=9223372036854775807:=by
     have h1:s.data.toList.length=s.size:=by rw[br];rfl
     rw[h1];exact hs
    refine⟨[.s s.data.toList],?_,nM.one ?_ rfl⟩
    ·simp only[WT,hu];exact⟨_,rfl,hl⟩
    ·exact .s s.data.toList
   |slice e=>
    simp only[aq,beq_iff_eq,decide_eq_true_eq,List.contains_iff_mem] at hcl;obtain⟨⟨h1,he⟩,hpos⟩:=hcl;rcases DataW.trod_slice hu h with⟨rfl,_⟩|⟨a,len,cap,elems,rest,m,hm,rfl,_,_,hlc,hcm,hel,hget,_,_⟩
    ·exact⟨[.sl []],by simp only[WT,hu];exact⟨[],rfl,by simp,fun x hx=>by cases hx⟩,nM.one (.nil _ _) rfl⟩
    ·cases hm
     have hall:∀i,i<len->∃ds:List D,ds.length=P.cellsOf e/\WT P n e ds/\∃vs,w.cells? 0 (a.add (i*P.cellsOf e)) (P.cellsOf e)=some vs/\nM w ds vs:=by
      intro i hi;have hg:=hget i hi
      cases hcs:w.cells? 0 (a.add (i*P.cellsOf e)) (P.cellsOf e) with
      |none=>
       rw[hcs] at hg
       have:i<elems.length:=by omega
       rw[ag this] at hg;cases hg
      |some vs=>
       rw[hcs] at hg
       have hlt:i<elems.length:=by omega
       rw[ag hlt] at hg;obtain⟨ds,hd1,hd2⟩:=AU hc n e vs _ he hg;have hv:=(zo hpos hcs).2.1;exact⟨ds,by rw[hd2.1,hv],hd1,vs,rfl,hd2⟩
     obtain⟨es,hes,hp⟩:=CV len hall
     have hwt:WT P (n+1) t [.sl es]:=by
      simp only[WT,hu]
      refine⟨es,rfl,by have:cap<=9223372036854775807:=hcm
                       omega,fun x hx=> ?_⟩
      obtain⟨i,hi⟩:=de hx;exact⟨(hp i x hi).1,(hp i x hi).2.1⟩
     refine⟨[.sl es],hwt,?_⟩
     cases y7:es with
     |nil=>
      have h0:len=0:=by rw[<-hes,y7];rfl
      subst h0;exact nM.one (.nil _ _) rfl
     |cons e0 es0=>
      have acI:0<len:=by rw[<-hes,y7];simp
      have hlen:∀x∈es,x.length=P.cellsOf e:=fun x hx=>by
       obtain⟨i,hi⟩:=de hx;exact(hp i x hi).1
      obtain⟨ds0,_,_,vs0,aa6,_⟩:=hall 0 acI
      have Jy:a.add (0*P.cellsOf e)=a:=by simp[Addr.add]
      rw[Jy] at aa6;obtain⟨hsp,_,c,tt,fz,hblk,_⟩:=zo hpos aa6
      have hcell:∀i r,i<len->r<P.cellsOf e->∃(x:List D) (v:Value) (d:D),es[i]? =some x/\x[r]? =some d/\c[a.off+(i*P.cellsOf e+r)]? =some v/\dw w (jf w) d v:=by
       intro i r hi hr
       have hlt:i<es.length:=by omega
       obtain⟨hx1,hx2,vs,hvs,hrep⟩:=hp i es[i] (ag hlt);obtain⟨_,hvl,c',t',Kc,hblk',hcc⟩:=zo hpos hvs
       have hb':(a.add (i*P.cellsOf e)).block=a.block:=by unfold Addr.add;split<;>rfl
       have ho':(a.add (i*P.cellsOf e)).off=a.off+i*P.cellsOf e:=by unfold Addr.add;split<;>simp_all
       rw[hb',hblk] at hblk';cases hblk';obtain⟨v,hv1,hv2⟩:=hcc r hr
       have hdr:r<es[i].length:=by omega
       obtain⟨v',hv',hd',_⟩:=hrep.2 r es[i][r] (ag hdr);rw[hv1] at hv';cases hv';refine⟨es[i],v,es[i][r],ag hlt,ag hdr,?_,hd'⟩;rw[ho'] at hv2;rw[<-dm];exact hv2
      have hbound:a.off+len*P.cellsOf e<=c.size:=by
       obtain⟨_,v,_,_,_,hv,_⟩:=hcell (len-1) (P.cellsOf e-1) (by omega) (by omega);have:=(aE.1 hv).1
       have e1:(len-1)*P.cellsOf e+P.cellsOf e=len*P.cellsOf e:=by
        rw[<-Nat.succ_mul];congr 1;omega
       omega
      have key:dw w (jf w) (.sl es) (.slice (some ⟨a.block,a.off,none⟩) es.length cap):=by
       refine .sl a.block a.off cap (P.cellsOf e) es (fun j=>(c[a.off+j]?).getD undef) c tt fz (by omega) hlen hblk ?_ (fun j hj=> ?_) (fun j d hj=> ?_)
       ·unfold jf;rw[hblk,hes];exact hbound
       ·have:a.off+j<c.size:=by rw[hes] at hj;omega
        rw[cb this];rfl
       ·have hfl:es.flatten.length=es.length*P.cellsOf e:=iF es _ hlen
        have hjl:j<es.length*P.cellsOf e:=by rw[<-hfl];exact(ai.1 hj).1
        have hi:j/P.cellsOf e<len:=by rw[<-hes];exact(Nat.div_lt_iff_lt_mul hpos).2 hjl
        obtain⟨x,v,d',hx,hd',hv,hr⟩:=hcell (j/P.cellsOf e) (j % P.cellsOf e) hi (Nat.mod_lt _ hpos)
        have hlt':j/P.cellsOf e<es.length:=by omega
        have hfg:=flat_get es (P.cellsOf e) hlen (j/P.cellsOf e) (j % P.cellsOf e) hlt' (Nat.mod_lt _ hpos)
        have hj':j/P.cellsOf e*P.cellsOf e+j % P.cellsOf e=j:=by rw[Nat.mul_comm];exact Nat.div_add_mod j _
        rw[hj',hj] at hfg;rw[ag hlt'] at hx;cases hx;rw[hd'] at hfg;cases hfg;rw[hj'] at hv;rw[hv];exact hr
      rw[<-y7];refine nM.one ?_ rfl
      have ha:a=⟨a.block,a.off,none⟩:=by cases a;simp at hsp;simp[hsp]
      rw[ha,<-hes];exact key
   |struct fs=>
    simp only[aq] at hcl;obtain⟨htl,hfs⟩:=hcl;obtain⟨xs,m,hm,rfl,hlen,hxs,adL⟩:=DataW.trod_struct hu h;cases hm;rw[<-hlen] at htl
    obtain⟨ds,h1,h2⟩:=Ni (w:=w) (n:=n) (cs:=cs) 0 (ao _) htl fun f hf=>by
     obtain⟨i,hi⟩:=de hf
     have hi':fs[i]? =some f:=by simpa using hi
     have hg:=adL i f hi'
     have hlt:i<xs.length:=by
      rw[hxs];exact(aE.1 hi').1
     rw[ag hlt] at hg
     have hfL:f.type∈L:=by
      have:=ax.1 hfs f hf;simpa using this
     exact AU hc n f.type _ _ hfL hg
    refine⟨ds,by simp only[WT,hu];exact h1,?_⟩;rw[cQ] at h2;exact h2
   |_=>cases hcl
end
open Go.ChangeShapes Go.WideShapes Go.ChangeAt Go.RowKit
section
variable {H:Type} {enc:TypeId×Value->H} {P:Program} {W W':World} {L:List TypeId} {t:TypeId} {v:Value} {base:Nat}
theorem WO{d:D}(hv:v.cells.toList=[v])(hL:nM W [d] v.cells.toList):cu W (jf W) [] [] (.c (.d d)) v:=by
 obtain⟨u,h1,h2,h3⟩:=hL.2 0 d rfl;rw[hv] at h1;cases h1;exact⟨h2,h3⟩
theorem TN{e:TypeId}{d:D}(ht:P.underlying t=some (.slice e))(hok:Value.okWide P W .any base t v)(hL:nM W [d] v.cells.toList):cu W (jf W) [] [] (.c (.d d)) v:=by
 obtain⟨a,n,m,rfl⟩:=okWide_slice ht hok;exact WO rfl hL
theorem TP:mX W (jf W) [] [] [] []:=⟨rfl,fun j x h=>by simp at h⟩
theorem Qs{x:V}{xs:List V}{vs:List Value}(h1:cu W (jf W) [] [] x v)(h2:mX W (jf W) [] [] xs vs):mX W (jf W) [] [] (x::xs) (v::vs):=by
 refine⟨by simp[h2.1],fun j y hj=> ?_⟩
 cases j with
 |zero=>cases hj;exact⟨v,rfl,h1⟩
 |succ j=>exact h2.2 j y hj
theorem WQ(W:World)(hg:xZ W (jf W)):dM W (jf W) [] [] where
 qp:=hg
 obj:=fun k o h=>by rw[kK] at h;cases h
 apart:=fun k k' o o' h h' b h1=>by rw[kK] at h1;cases h1
 shape:=⟨rfl,fun l fr h=>by simp at h⟩
 live:=fun b=>by
  by_cases h:b<W.heap.size
  ·exact .inl h
  ·right;unfold jf;rw[di (by omega)]
theorem aa7{b:Nat}:¬Own [] [] b:=fun⟨k,o,h,h1,_⟩=>by rw[kK] at h1;cases h1
theorem zV(hl:laidOutB P=true)(hsame:∀b,b<W.heap.size->W'.heap[b]? =W.heap[b]?)(sp:Nat->Bool):∀(ts:List TypeId)(vs:List Value)(ds:List (DataW H))(ps:List MemPlace),
 (ts.all fun t=>P.readableRec t&&decide (t<P.types.size))=true->(∀p∈ps,p.block<W.heap.size/\sp p.block=true)->
   DataW.TrodAll enc P W 0 (fun _=>true) true ts vs ds ps->DataW.TrodAll enc P W' 0 sp true ts vs ds ps
 |[],[],[],ps,_,_,h=>h
 |t::ts,v::vs,d::ds,ps,hr,hlt,h=>by
  simp only[ef,aq,decide_eq_true_eq] at hr;obtain⟨p,q,h1,h2,rfl⟩:=h;refine⟨p,q,WideElems.Trod_stays hl hr.1.1 hr.1.2 h1 (fun x hx=> ?_) (fun x hx=>(hlt x (by simp[hx])).2),zV hl hsame sp ts vs ds q hr.2 (fun x hx=>hlt x (by simp[hx])) h2,rfl⟩;have hb:=(hlt x (by simp[hx])).1
  cases x with
  |cell b o=>exact World.cell?_of_block (w:=W) (hsame b hb)
  |map b=>exact hsame b hb
 |[],[],_::_,ps,_,_,h=>h.elim
 |[],_::_,_,ps,_,_,h=>h.elim
 |_::_,[],_,ps,_,_,h=>h.elim
 |_::_,_::_,[],ps,_,_,h=>h.elim
theorem WR{f:FuncId}{fn:Func}{s:ChangeSpec}{args:Array Value}{ds gs:List (DataW H)}{before:List MemPlace}{vs:List V}{tb:TypeId}(hl:laidOutB P=true)
 (hr:(fn.params.toList.all fun t=>P.readableRec t&&decide (t<P.types.size))=true)(hvars:s.vars=[])(hres:fn.resultTypes= #[tb])(htb:P.underlying tb=some .bool)
 (hs1:(s.fn H (ds++gs)).results=[.lit (.bool true)])(hs2:(s.fn H (ds++gs)).args=ds)(hs3:(s.fn H (ds++gs)).vars=[])
 (hW:DataW.Whole enc P fn.params.toList s.vars false W args.toList ds gs before)(hargs:mX W (jf W) [] [] vs args.toList)
 (hcall:bK P f vs [] fun r _=>r=.c (.d (.b true)))(acJ:xZ W (jf W):=by(intro g p hm;exact absurd hm List.not_mem_nil)):
 Calls P f args W fun e W'=>∃v,e=.returned v/\s.post enc P fn false true false false W args v W':=by
 have hc:=hcall.2 W (jf W) [] args.toList (WQ W acJ) hargs
 have e1:args.toList.toArray=args:=by simp
 rw[e1] at hc;refine hc.mono fun e W' ⟨v,r,S',σ',β',he,hS',hk,hst,hv,hp⟩=> ?_;subst hp;obtain⟨hv,_⟩:=hv;cases hv;refine⟨_,he,?_⟩;have hsame:∀b,b<W.heap.size->W'.heap[b]? =W.heap[b]? :=fun b hb=>(hst.far b hb aa7).1;have hlt:=fun p hp=>hW.lt p hp;have hW0:=hW;obtain⟨pa,q,hA,hV,rfl,hz,hn⟩:=hW;rw[hvars] at hV
 have hq:gs=[]/\q=[]:=by
  obtain⟨h1,h2⟩:=trodVars_none hV;exact⟨h1,h2⟩
 obtain⟨rfl,rfl⟩:=hq
 rw[cJ] at *
 refine⟨ds,[],pa,[],pa,[],?_,?_,?_,?_,?_,fun h=>by cases h⟩
 ·simpa using hW0
 ·rw[cJ,hs1,hres];exact trodAll_cons_mk (shut_bool htb _) trodAll_mk0
 ·rw[cJ,hs2];exact zV hl hsame _ _ _ _ _ hr (fun p hp=>⟨hlt p hp,by simpa using hlt p hp⟩) hA
 ·rw[cJ,hs3,hvars];rfl
 ·refine⟨hst.os,hst.output,fun i hi=> ?_⟩;rw[hsame i hi];split<;>simp_all
end
mutual
def D.sz:D->Nat
 | .s l=>l.length
 | .sl es=>es.length+aH es
 | .b _=>0
 | .i _ _=>0
 | .o _=>0
 | .ol _ es=>es.length+aH es
def aY:List D->Nat
 |[]=>0
 |d::ds=>d.sz+aY ds
def aH:List (List D)->Nat
 |[]=>0
 |r::rs=>aY r+aH rs
end
theorem bG:∀(a b:List D),aY (a++b)=aY a+aY b
 |[],b=>by simp[aY]
 |d::ds,b=>by rw[az,aY,bG ds b,aY];omega
def pE(left:Int)(n:Nat):Int:=if left-n<0 then -1 else left-n
theorem Oe{l:Int}{a:Nat}(h:¬pE l a<0):pE l a=l-a/\0<=l-a:=by
 unfold pE at *
 split at h
 ·omega
 ·rename_i h';exact⟨if_neg h',by omega⟩
theorem Lb{l:Int}{a:Nat}(h:pE l a<0):l-a<0:=by
 unfold pE at *
 split at h<;>omega
theorem Og{l:Int}{a:Nat}(h:l-a<0):pE l a= -1:=if_pos h
theorem WS{l:Int}{a:Nat}(h:0<=l-a):pE l a=l-a:=if_neg (by omega)
theorem int_eq{k:IntKind}{a b:Int}(h:a=b):V.c (.d (.i k a))=V.c (.d (.i k b)):=by rw[h]
theorem ay{a b:Bool}(h:a=b):V.c (.d (.b a))=V.c (.d (.b b)):=by rw[h]
noncomputable def dec(p:Prop):Bool:= @decide p (Classical.propDecidable p)
theorem bg{p:Prop}(h:p):dec p=true:=by simp[dec,h]
theorem aI{p:Prop}(h:¬p):dec p=false:=by simp[dec,h]
theorem iD{p:Prop}(h:dec p=true):p:=by simpa [dec] using h
theorem gK{p:Prop}(h:dec p=false):¬p:=by simpa [dec] using h
theorem oD{p:Prop}:(dec p=true)=p:=by simp[dec]
theorem AV{p:Prop}:(dec p=false)=¬p:=by simp[dec]
attribute [wf_preprocess] oD AV
theorem dY{p q:Prop}(h:p<->q):dec p=dec q:=by rw[propext h]
theorem WU:dec True=true:=bg trivial
theorem Im:dec False=false:=aI id
attribute [go_sem] WU Im
theorem j3{p:Prop}[Decidable p]:decide p=dec p:=by by_cases h:p<;>simp[dec,h]
theorem dK{r:List D}:∀{rs:List (List D)},r∈rs->aY r<=aH rs
 |a::rs,h=>by
  rw[aH];rcases du.1 h with rfl|h
  ·omega
  ·have:=dK h;omega
def AX(z i:Nat)(R rows:List (List D)):Prop:=R.length=rows.length/\(∀r∈R,r.length=z)/\∀j,j<i->R[j]? =rows[j]?
theorem AX.step{z i:Nat}{R rows:List (List D)}{row:List D}(h:AX z i R rows)(hi:rows[i]? =some row)(hr:row.length=z):AX z (i+1) (R.set i (ng (R.getD i []) 0 row)) rows:=by
 obtain⟨h1,h2,h3⟩:=h;have hlt:i<rows.length:=(ai.1 hi).1
 have hs:ng (R.getD i []) 0 row=row:=by
  have hm:R.getD i []∈R:=by
   rw[ch,ag (by omega)];exact ac _
  have:=h2 _ hm;unfold ng;rw[List.take_zero,ba,cT,hr,en (by omega),cJ]
 rw[hs];refine⟨by simpa using h1,fun r hr'=> ?_,fun j hj=> ?_⟩
 ·rcases List.mem_or_eq_of_mem_set hr' with h|h
  ·exact h2 r h
  ·rw[h];exact hr
 ·by_cases e:j=i
  ·subst e;rw[hi,cW (by omega)]
  ·rw[eA (by omega)];exact h3 j (by omega)
theorem AX.done{z i:Nat}{R rows:List (List D)}(h:AX z i R rows)(hi:rows.length<=i):R=rows:=by
 obtain⟨h1,h2,h3⟩:=h;refine cy fun j=> ?_;by_cases hj:j<i
 ·exact h3 j hj
 ·rw[bp (by omega),bp (by omega)]
def encS(s:List UInt8):List D:=[.s s]
def encI(n:Int):List D:=[.i .i64 n]
inductive ah where
 |mk (aW:Int) (fName:List UInt8) (fArgs:List ah)
def ah.aW:ah->Int| .mk x _ _=>x
def ah.fName:ah->List UInt8| .mk _ x _=>x
def ah.fArgs:ah->List ah| .mk _ _ x=>x
theorem ah.eta(x:ah):ah.mk x.aW x.fName x.fArgs=x:=by cases x;rfl
theorem ah.ext{x y:ah}(h0:x.aW=y.aW)(h1:x.fName=y.fName)(h2:x.fArgs=y.fArgs):x=y:=by
 rw[<-ah.eta x,<-ah.eta y,h0,h1,h2]
mutual
def ah.enc:ah->List D
 | .mk a0 a1 a2=>[.i .i64 a0,.s a1,.sl (ah.encs a2)]
def ah.encs:List ah->List (List D)
 |[]=>[]
 |x::xs=>x.enc::ah.encs xs
end
theorem ah.iw:∀l,ah.encs l=l.map ah.enc
 |[]=>rfl
 |x::xs=>by rw[ah.encs,af,ah.iw xs]
theorem ah.aB(x:ah):x.enc=[.i .i64 x.aW,.s x.fName,.sl (x.fArgs.map ah.enc)]:=by
 cases x;simp only[ah.enc,ah.iw,ah.aW,ah.fName,ah.fArgs]
abbrev ah.v(x:ah):V:=.agg [.d (.i .i64 x.aW),.d (.s x.fName),.d (.sl (x.fArgs.map ah.enc))]
theorem ah.qz(x:ah): .agg (x.enc.map .d)=x.v:=by
 simp only[ah.aB,af,ap,az,ba,bc]
theorem ah.bV(x:ah):x.enc.length=3:=by
 simp only[ah.aB,ab,aa,ae]
def ah.sz(x:ah):Nat:=aY x.enc
theorem ah.cB(x:ah):aY x.enc=x.sz:=rfl
theorem ah.gM(x:ah):SizeOf.sizeOf x.fArgs<SizeOf.sizeOf x:=by cases x;simp[ah.fArgs];omega
structure dI where
 fVar:List UInt8
 fType:ah
def dI.enc(x:dI):List D:=[.s x.fVar]++(x.fType.enc)
theorem dI.aB(x:dI):x.enc=[.s x.fVar]++(x.fType.enc):=rfl
theorem dI.eta(x:dI):dI.mk x.fVar x.fType=x:=rfl
theorem dI.ext'{x y:dI}(h0:x.fVar=y.fVar)(h1:x.fType=y.fType):x=y:=by
 cases x;cases y;simp_all
abbrev dI.v(x:dI):V:=.agg [.d (.s x.fVar),.d (.i .i64 x.fType.aW),.d (.s x.fType.fName),.d (.sl (x.fType.fArgs.map ah.enc))]
theorem dI.qz(x:dI): .agg (x.enc.map .d)=x.v:=by
 simp only[dI.aB,ah.aB,af,ap,az,ba,bc]
theorem dI.bV(x:dI):x.enc.length=4:=by
 simp only[dI.aB,ah.bV,ab,aa,ae]
def dI.sz(x:dI):Nat:=aY x.enc
theorem dI.cB(x:dI):aY x.enc=x.sz:=rfl
structure bR where
 dP:List UInt8
 fType:ah
def bR.enc(x:bR):List D:=[.s x.dP]++(x.fType.enc)
theorem bR.aB(x:bR):x.enc=[.s x.dP]++(x.fType.enc):=rfl
theorem bR.eta(x:bR):bR.mk x.dP x.fType=x:=rfl
theorem bR.ext'{x y:bR}(h0:x.dP=y.dP)(h1:x.fType=y.fType):x=y:=by
 cases x;cases y;simp_all
abbrev bR.v(x:bR):V:=.agg [.d (.s x.dP),.d (.i .i64 x.fType.aW),.d (.s x.fType.fName),.d (.sl (x.fType.fArgs.map ah.enc))]
theorem bR.qz(x:bR): .agg (x.enc.map .d)=x.v:=by
 simp only[bR.aB,ah.aB,af,ap,az,ba,bc]
theorem bR.bV(x:bR):x.enc.length=4:=by
 simp only[bR.aB,ah.bV,ab,aa,ae]
def bR.sz(x:bR):Nat:=aY x.enc
theorem bR.cB(x:bR):aY x.enc=x.sz:=rfl
mutual
inductive ak where
 |mk (aW:Int) (dP:List UInt8) (fName:List UInt8) (fN:Int) (fType:ah) (fArgs:List ak) (aX:List aR)
inductive aR where
 |mk (fO:List UInt8) (aO:List (List UInt8)) (fBody:ak)
end
def ak.aW:ak->Int| .mk x _ _ _ _ _ _=>x
def ak.dP:ak->List UInt8| .mk _ x _ _ _ _ _=>x
def ak.fName:ak->List UInt8| .mk _ _ x _ _ _ _=>x
def ak.fN:ak->Int| .mk _ _ _ x _ _ _=>x
def ak.fType:ak->ah| .mk _ _ _ _ x _ _=>x
def ak.fArgs:ak->List ak| .mk _ _ _ _ _ x _=>x
def ak.aX:ak->List aR| .mk _ _ _ _ _ _ x=>x
theorem ak.eta(x:ak):ak.mk x.aW x.dP x.fName x.fN x.fType x.fArgs x.aX=x:=by cases x;rfl
theorem ak.ext{x y:ak}(h0:x.aW=y.aW)(h1:x.dP=y.dP)(h2:x.fName=y.fName)(h3:x.fN=y.fN)(h4:x.fType=y.fType)(h5:x.fArgs=y.fArgs)(h6:x.aX=y.aX):x=y:=by
 rw[<-ak.eta x,<-ak.eta y,h0,h1,h2,h3,h4,h5,h6]
def aR.fO:aR->List UInt8| .mk x _ _=>x
def aR.aO:aR->List (List UInt8)| .mk _ x _=>x
def aR.fBody:aR->ak| .mk _ _ x=>x
theorem aR.eta(x:aR):aR.mk x.fO x.aO x.fBody=x:=by cases x;rfl
theorem aR.ext{x y:aR}(h0:x.fO=y.fO)(h1:x.aO=y.aO)(h2:x.fBody=y.fBody):x=y:=by
 rw[<-aR.eta x,<-aR.eta y,h0,h1,h2]
mutual
def ak.enc:ak->List D
 | .mk a0 a1 a2 a3 a4 a5 a6=>[.i .i64 a0,.s a1,.s a2,.i .i64 a3]++(a4.enc++([.sl (ak.encs a5),.sl (aR.encs a6)]))
def ak.encs:List ak->List (List D)
 |[]=>[]
 |x::xs=>x.enc::ak.encs xs
def aR.enc:aR->List D
 | .mk a0 a1 a2=>[.s a0,.sl (a1.map encS)]++(ak.enc a2)
def aR.encs:List aR->List (List D)
 |[]=>[]
 |x::xs=>x.enc::aR.encs xs
end
theorem ak.iw:∀l,ak.encs l=l.map ak.enc
 |[]=>rfl
 |x::xs=>by rw[ak.encs,af,ak.iw xs]
theorem aR.iw:∀l,aR.encs l=l.map aR.enc
 |[]=>rfl
 |x::xs=>by rw[aR.encs,af,aR.iw xs]
theorem ak.aB(x:ak):x.enc=[.i .i64 x.aW,.s x.dP,.s x.fName,.i .i64 x.fN]++(x.fType.enc++([.sl (x.fArgs.map ak.enc),.sl (x.aX.map aR.enc)])):=by
 cases x;simp only[ak.enc,ak.iw,aR.iw,ak.aW,ak.dP,ak.fName,ak.fN,ak.fType,ak.fArgs,ak.aX]
theorem aR.aB(x:aR):x.enc=[.s x.fO,.sl (x.aO.map encS)]++(x.fBody.enc):=by
 cases x;simp only[aR.enc,ak.iw,aR.iw,aR.fO,aR.aO,aR.fBody]
abbrev ak.v(x:ak):V:=.agg [.d (.i .i64 x.aW),.d (.s x.dP),.d (.s x.fName),.d (.i .i64 x.fN),.d (.i .i64 x.fType.aW),.d (.s x.fType.fName),.d (.sl (x.fType.fArgs.map ah.enc)),.d (.sl (x.fArgs.map ak.enc)),.d (.sl (x.aX.map aR.enc))]
theorem ak.qz(x:ak): .agg (x.enc.map .d)=x.v:=by
 simp only[ak.aB,ah.aB,af,ap,az,ba,bc]
theorem ak.bV(x:ak):x.enc.length=9:=by
 simp only[ak.aB,ah.bV,ab,aa,ae]
def ak.sz(x:ak):Nat:=aY x.enc
theorem ak.cB(x:ak):aY x.enc=x.sz:=rfl
theorem ak.gM(x:ak):SizeOf.sizeOf x.fArgs<SizeOf.sizeOf x:=by cases x;simp[ak.fArgs];omega
theorem ak.qZ(x:ak):SizeOf.sizeOf x.aX<SizeOf.sizeOf x:=by cases x;simp[ak.aX];omega
abbrev aR.v(x:aR):V:=.agg [.d (.s x.fO),.d (.sl (x.aO.map encS)),.d (.i .i64 x.fBody.aW),.d (.s x.fBody.dP),.d (.s x.fBody.fName),.d (.i .i64 x.fBody.fN),.d (.i .i64 x.fBody.fType.aW),.d (.s x.fBody.fType.fName),.d (.sl (x.fBody.fType.fArgs.map ah.enc)),.d (.sl (x.fBody.fArgs.map ak.enc)),.d (.sl (x.fBody.aX.map aR.enc))]
theorem aR.qz(x:aR): .agg (x.enc.map .d)=x.v:=by
 simp only[aR.aB,ak.aB,ah.aB,af,ap,az,ba,bc]
theorem aR.bV(x:aR):x.enc.length=11:=by
 simp only[aR.aB,ak.bV,ab,aa,ae]
def aR.sz(x:aR):Nat:=aY x.enc
theorem aR.cB(x:aR):aY x.enc=x.sz:=rfl
theorem aR.pX(x:aR):SizeOf.sizeOf x.fBody<SizeOf.sizeOf x:=by cases x;simp[aR.fBody];omega
inductive bC where
 |mk (qK:List UInt8) (pY:List bC)
def bC.qK:bC->List UInt8| .mk x _=>x
def bC.pY:bC->List bC| .mk _ x=>x
theorem bC.eta(x:bC):bC.mk x.qK x.pY=x:=by cases x;rfl
theorem bC.ext{x y:bC}(h0:x.qK=y.qK)(h1:x.pY=y.pY):x=y:=by
 rw[<-bC.eta x,<-bC.eta y,h0,h1]
mutual
def bC.enc:bC->List D
 | .mk a0 a1=>[.s a0,.sl (bC.encs a1)]
def bC.encs:List bC->List (List D)
 |[]=>[]
 |x::xs=>x.enc::bC.encs xs
end
theorem bC.iw:∀l,bC.encs l=l.map bC.enc
 |[]=>rfl
 |x::xs=>by rw[bC.encs,af,bC.iw xs]
theorem bC.aB(x:bC):x.enc=[.s x.qK,.sl (x.pY.map bC.enc)]:=by
 cases x;simp only[bC.enc,bC.iw,bC.qK,bC.pY]
abbrev bC.v(x:bC):V:=.agg [.d (.s x.qK),.d (.sl (x.pY.map bC.enc))]
theorem bC.qz(x:bC): .agg (x.enc.map .d)=x.v:=by
 simp only[bC.aB,af,ap,az,ba,bc]
theorem bC.bV(x:bC):x.enc.length=2:=by
 simp only[bC.aB,ab,aa,ae]
def bC.sz(x:bC):Nat:=aY x.enc
theorem bC.cB(x:bC):aY x.enc=x.sz:=rfl
structure bA where
 fName:List UInt8
 bQ:List ah
 eZ:ah
 j4:Bool
 aO:List (List UInt8)
 fBody:ak
def bA.enc(x:bA):List D:=[.s x.fName,.sl (x.bQ.map ah.enc)]++(x.eZ.enc++([.b x.j4,.sl (x.aO.map encS)]++(x.fBody.enc)))
theorem bA.aB(x:bA):x.enc=[.s x.fName,.sl (x.bQ.map ah.enc)]++(x.eZ.enc++([.b x.j4,.sl (x.aO.map encS)]++(x.fBody.enc))):=rfl
theorem bA.eta(x:bA):bA.mk x.fName x.bQ x.eZ x.j4 x.aO x.fBody=x:=rfl
theorem bA.ext'{x y:bA}(h0:x.fName=y.fName)(h1:x.bQ=y.bQ)(h2:x.eZ=y.eZ)(h3:x.j4=y.j4)(h4:x.aO=y.aO)(h5:x.fBody=y.fBody):x=y:=by
 cases x;cases y;simp_all
abbrev bA.v(x:bA):V:=.agg [.d (.s x.fName),.d (.sl (x.bQ.map ah.enc)),.d (.i .i64 x.eZ.aW),.d (.s x.eZ.fName),.d (.sl (x.eZ.fArgs.map ah.enc)),.d (.b x.j4),.d (.sl (x.aO.map encS)),.d (.i .i64 x.fBody.aW),.d (.s x.fBody.dP),.d (.s x.fBody.fName),.d (.i .i64 x.fBody.fN),.d (.i .i64 x.fBody.fType.aW),.d (.s x.fBody.fType.fName),.d (.sl (x.fBody.fType.fArgs.map ah.enc)),.d (.sl (x.fBody.fArgs.map ak.enc)),.d (.sl (x.fBody.aX.map aR.enc))]
theorem bA.qz(x:bA): .agg (x.enc.map .d)=x.v:=by
 simp only[bA.aB,ak.aB,ah.aB,af,ap,az,ba,bc]
theorem bA.bV(x:bA):x.enc.length=16:=by
 simp only[bA.aB,ak.bV,ah.bV,ab,aa,ae]
def bA.sz(x:bA):Nat:=aY x.enc
theorem bA.cB(x:bA):aY x.enc=x.sz:=rfl
structure dx where
 fName:List UInt8
 dN:List (List UInt8)
 zq:Bool
 fP:Bool
 bE:List bA
def dx.enc(x:dx):List D:=[.s x.fName,.sl (x.dN.map encS),.b x.zq,.b x.fP,.sl (x.bE.map bA.enc)]
theorem dx.aB(x:dx):x.enc=[.s x.fName,.sl (x.dN.map encS),.b x.zq,.b x.fP,.sl (x.bE.map bA.enc)]:=rfl
theorem dx.eta(x:dx):dx.mk x.fName x.dN x.zq x.fP x.bE=x:=rfl
theorem dx.ext'{x y:dx}(h0:x.fName=y.fName)(h1:x.dN=y.dN)(h2:x.zq=y.zq)(h3:x.fP=y.fP)(h4:x.bE=y.bE):x=y:=by
 cases x;cases y;simp_all
abbrev dx.v(x:dx):V:=.agg [.d (.s x.fName),.d (.sl (x.dN.map encS)),.d (.b x.zq),.d (.b x.fP),.d (.sl (x.bE.map bA.enc))]
theorem dx.qz(x:dx): .agg (x.enc.map .d)=x.v:=by
 simp only[dx.aB,af,ap,az,ba,bc]
theorem dx.bV(x:dx):x.enc.length=5:=by
 simp only[dx.aB,ab,aa,ae]
def dx.sz(x:dx):Nat:=aY x.enc
theorem dx.cB(x:dx):aY x.enc=x.sz:=rfl
structure aU where
 fName:List UInt8
 jg:List ah
def aU.enc(x:aU):List D:=[.s x.fName,.sl (x.jg.map ah.enc)]
theorem aU.aB(x:aU):x.enc=[.s x.fName,.sl (x.jg.map ah.enc)]:=rfl
theorem aU.eta(x:aU):aU.mk x.fName x.jg=x:=rfl
theorem aU.ext'{x y:aU}(h0:x.fName=y.fName)(h1:x.jg=y.jg):x=y:=by
 cases x;cases y;simp_all
abbrev aU.v(x:aU):V:=.agg [.d (.s x.fName),.d (.sl (x.jg.map ah.enc))]
theorem aU.qz(x:aU): .agg (x.enc.map .d)=x.v:=by
 simp only[aU.aB,af,ap,az,ba,bc]
theorem aU.bV(x:aU):x.enc.length=2:=by
 simp only[aU.aB,ab,aa,ae]
def aU.sz(x:aU):Nat:=aY x.enc
theorem aU.cB(x:aU):aY x.enc=x.sz:=rfl
structure aZ where
 fName:List UInt8
 aO:List (List UInt8)
 aK:List aU
def aZ.enc(x:aZ):List D:=[.s x.fName,.sl (x.aO.map encS),.sl (x.aK.map aU.enc)]
theorem aZ.aB(x:aZ):x.enc=[.s x.fName,.sl (x.aO.map encS),.sl (x.aK.map aU.enc)]:=rfl
theorem aZ.eta(x:aZ):aZ.mk x.fName x.aO x.aK=x:=rfl
theorem aZ.ext'{x y:aZ}(h0:x.fName=y.fName)(h1:x.aO=y.aO)(h2:x.aK=y.aK):x=y:=by
 cases x;cases y;simp_all
abbrev aZ.v(x:aZ):V:=.agg [.d (.s x.fName),.d (.sl (x.aO.map encS)),.d (.sl (x.aK.map aU.enc))]
theorem aZ.qz(x:aZ): .agg (x.enc.map .d)=x.v:=by
 simp only[aZ.aB,af,ap,az,ba,bc]
theorem aZ.bV(x:aZ):x.enc.length=3:=by
 simp only[aZ.aB,ab,aa,ae]
def aZ.sz(x:aZ):Nat:=aY x.enc
theorem aZ.cB(x:aZ):aY x.enc=x.sz:=rfl
structure cO where
 fName:List UInt8
 aO:List (List UInt8)
 fBody:ak
def cO.enc(x:cO):List D:=[.s x.fName,.sl (x.aO.map encS)]++(x.fBody.enc)
theorem cO.aB(x:cO):x.enc=[.s x.fName,.sl (x.aO.map encS)]++(x.fBody.enc):=rfl
theorem cO.eta(x:cO):cO.mk x.fName x.aO x.fBody=x:=rfl
theorem cO.ext'{x y:cO}(h0:x.fName=y.fName)(h1:x.aO=y.aO)(h2:x.fBody=y.fBody):x=y:=by
 cases x;cases y;simp_all
abbrev cO.v(x:cO):V:=.agg [.d (.s x.fName),.d (.sl (x.aO.map encS)),.d (.i .i64 x.fBody.aW),.d (.s x.fBody.dP),.d (.s x.fBody.fName),.d (.i .i64 x.fBody.fN),.d (.i .i64 x.fBody.fType.aW),.d (.s x.fBody.fType.fName),.d (.sl (x.fBody.fType.fArgs.map ah.enc)),.d (.sl (x.fBody.fArgs.map ak.enc)),.d (.sl (x.fBody.aX.map aR.enc))]
theorem cO.qz(x:cO): .agg (x.enc.map .d)=x.v:=by
 simp only[cO.aB,ak.aB,ah.aB,af,ap,az,ba,bc]
theorem cO.bV(x:cO):x.enc.length=11:=by
 simp only[cO.aB,ak.bV,ab,aa,ae]
def cO.sz(x:cO):Nat:=aY x.enc
theorem cO.cB(x:cO):aY x.enc=x.sz:=rfl
structure bI where
 dP:List UInt8
 aO:List (List UInt8)
 fD:ah
 fI:List bR
 tZ:Bool
 kY:Bool
 fP:ah
 bN:List cO
def bI.enc(x:bI):List D:=[.s x.dP,.sl (x.aO.map encS)]++(x.fD.enc++([.sl (x.fI.map bR.enc),.b x.tZ,.b x.kY]++(x.fP.enc++([.sl (x.bN.map cO.enc)]))))
theorem bI.aB(x:bI):x.enc=[.s x.dP,.sl (x.aO.map encS)]++(x.fD.enc++([.sl (x.fI.map bR.enc),.b x.tZ,.b x.kY]++(x.fP.enc++([.sl (x.bN.map cO.enc)])))):=rfl
theorem bI.eta(x:bI):bI.mk x.dP x.aO x.fD x.fI x.tZ x.kY x.fP x.bN=x:=rfl
theorem bI.ext'{x y:bI}(h0:x.dP=y.dP)(h1:x.aO=y.aO)(h2:x.fD=y.fD)(h3:x.fI=y.fI)(h4:x.tZ=y.tZ)(h5:x.kY=y.kY)(h6:x.fP=y.fP)(h7:x.bN=y.bN):x=y:=by
 cases x;cases y;simp_all
abbrev bI.v(x:bI):V:=.agg [.d (.s x.dP),.d (.sl (x.aO.map encS)),.d (.i .i64 x.fD.aW),.d (.s x.fD.fName),.d (.sl (x.fD.fArgs.map ah.enc)),.d (.sl (x.fI.map bR.enc)),.d (.b x.tZ),.d (.b x.kY),.d (.i .i64 x.fP.aW),.d (.s x.fP.fName),.d (.sl (x.fP.fArgs.map ah.enc)),.d (.sl (x.bN.map cO.enc))]
theorem bI.qz(x:bI): .agg (x.enc.map .d)=x.v:=by
 simp only[bI.aB,ah.aB,af,ap,az,ba,bc]
theorem bI.bV(x:bI):x.enc.length=12:=by
 simp only[bI.aB,ah.bV,ab,aa,ae]
def bI.sz(x:bI):Nat:=aY x.enc
theorem bI.cB(x:bI):aY x.enc=x.sz:=rfl
structure bY where
 fName:List UInt8
 fType:ah
def bY.enc(x:bY):List D:=[.s x.fName]++(x.fType.enc)
theorem bY.aB(x:bY):x.enc=[.s x.fName]++(x.fType.enc):=rfl
theorem bY.eta(x:bY):bY.mk x.fName x.fType=x:=rfl
theorem bY.ext'{x y:bY}(h0:x.fName=y.fName)(h1:x.fType=y.fType):x=y:=by
 cases x;cases y;simp_all
abbrev bY.v(x:bY):V:=.agg [.d (.s x.fName),.d (.i .i64 x.fType.aW),.d (.s x.fType.fName),.d (.sl (x.fType.fArgs.map ah.enc))]
theorem bY.qz(x:bY): .agg (x.enc.map .d)=x.v:=by
 simp only[bY.aB,ah.aB,af,ap,az,ba,bc]
theorem bY.bV(x:bY):x.enc.length=4:=by
 simp only[bY.aB,ah.bV,ab,aa,ae]
def bY.sz(x:bY):Nat:=aY x.enc
theorem bY.cB(x:bY):aY x.enc=x.sz:=rfl
structure bJ where
 fName:List UInt8
 aO:List (List UInt8)
 fI:List bR
 bQ:List bY
 eZ:ah
 fBody:ak
def bJ.enc(x:bJ):List D:=[.s x.fName,.sl (x.aO.map encS),.sl (x.fI.map bR.enc),.sl (x.bQ.map bY.enc)]++(x.eZ.enc++(x.fBody.enc))
theorem bJ.aB(x:bJ):x.enc=[.s x.fName,.sl (x.aO.map encS),.sl (x.fI.map bR.enc),.sl (x.bQ.map bY.enc)]++(x.eZ.enc++(x.fBody.enc)):=rfl
theorem bJ.eta(x:bJ):bJ.mk x.fName x.aO x.fI x.bQ x.eZ x.fBody=x:=rfl
theorem bJ.ext'{x y:bJ}(h0:x.fName=y.fName)(h1:x.aO=y.aO)(h2:x.fI=y.fI)(h3:x.bQ=y.bQ)(h4:x.eZ=y.eZ)(h5:x.fBody=y.fBody):x=y:=by
 cases x;cases y;simp_all
abbrev bJ.v(x:bJ):V:=.agg [.d (.s x.fName),.d (.sl (x.aO.map encS)),.d (.sl (x.fI.map bR.enc)),.d (.sl (x.bQ.map bY.enc)),.d (.i .i64 x.eZ.aW),.d (.s x.eZ.fName),.d (.sl (x.eZ.fArgs.map ah.enc)),.d (.i .i64 x.fBody.aW),.d (.s x.fBody.dP),.d (.s x.fBody.fName),.d (.i .i64 x.fBody.fN),.d (.i .i64 x.fBody.fType.aW),.d (.s x.fBody.fType.fName),.d (.sl (x.fBody.fType.fArgs.map ah.enc)),.d (.sl (x.fBody.fArgs.map ak.enc)),.d (.sl (x.fBody.aX.map aR.enc))]
theorem bJ.qz(x:bJ): .agg (x.enc.map .d)=x.v:=by
 simp only[bJ.aB,ak.aB,ah.aB,af,ap,az,ba,bc]
theorem bJ.bV(x:bJ):x.enc.length=16:=by
 simp only[bJ.aB,ak.bV,ah.bV,ab,aa,ae]
def bJ.sz(x:bJ):Nat:=aY x.enc
theorem bJ.cB(x:bJ):aY x.enc=x.sz:=rfl
structure aA where
 fName:List UInt8
 bX:List (List UInt8)
 bZ:List dx
 aG:List aZ
 bS:List bI
 bH:List bJ
def aA.enc(x:aA):List D:=[.s x.fName,.sl (x.bX.map encS),.sl (x.bZ.map dx.enc),.sl (x.aG.map aZ.enc),.sl (x.bS.map bI.enc),.sl (x.bH.map bJ.enc)]
theorem aA.aB(x:aA):x.enc=[.s x.fName,.sl (x.bX.map encS),.sl (x.bZ.map dx.enc),.sl (x.aG.map aZ.enc),.sl (x.bS.map bI.enc),.sl (x.bH.map bJ.enc)]:=rfl
theorem aA.eta(x:aA):aA.mk x.fName x.bX x.bZ x.aG x.bS x.bH=x:=rfl
theorem aA.ext'{x y:aA}(h0:x.fName=y.fName)(h1:x.bX=y.bX)(h2:x.bZ=y.bZ)(h3:x.aG=y.aG)(h4:x.bS=y.bS)(h5:x.bH=y.bH):x=y:=by
 cases x;cases y;simp_all
abbrev aA.v(x:aA):V:=.agg [.d (.s x.fName),.d (.sl (x.bX.map encS)),.d (.sl (x.bZ.map dx.enc)),.d (.sl (x.aG.map aZ.enc)),.d (.sl (x.bS.map bI.enc)),.d (.sl (x.bH.map bJ.enc))]
theorem aA.qz(x:aA): .agg (x.enc.map .d)=x.v:=by
 simp only[aA.aB,af,ap,az,ba,bc]
theorem aA.bV(x:aA):x.enc.length=6:=by
 simp only[aA.aB,ab,aa,ae]
def aA.sz(x:aA):Nat:=aY x.enc
theorem aA.cB(x:aA):aY x.enc=x.sz:=rfl
structure aS where
 aF:List aA
def aS.enc(x:aS):List D:=[.sl (x.aF.map aA.enc)]
theorem aS.aB(x:aS):x.enc=[.sl (x.aF.map aA.enc)]:=rfl
theorem aS.eta(x:aS):aS.mk x.aF=x:=rfl
theorem aS.ext'{x y:aS}(h0:x.aF=y.aF):x=y:=by
 cases x;cases y;simp_all
abbrev aS.v(x:aS):V:=.agg [.d (.sl (x.aF.map aA.enc))]
theorem aS.qz(x:aS): .agg (x.enc.map .d)=x.v:=by
 simp only[aS.aB,af,ap,az,ba,bc]
theorem aS.bV(x:aS):x.enc.length=1:=by
 simp only[aS.aB,ab,aa,ae]
def aS.sz(x:aS):Nat:=aY x.enc
theorem aS.cB(x:aS):aY x.enc=x.sz:=rfl
structure dF where
 uf:Int
 Oh:Int
def dF.enc(x:dF):List D:=[.i .i64 x.uf,.i .i64 x.Oh]
theorem dF.aB(x:dF):x.enc=[.i .i64 x.uf,.i .i64 x.Oh]:=rfl
theorem dF.eta(x:dF):dF.mk x.uf x.Oh=x:=rfl
theorem dF.ext'{x y:dF}(h0:x.uf=y.uf)(h1:x.Oh=y.Oh):x=y:=by
 cases x;cases y;simp_all
abbrev dF.v(x:dF):V:=.agg [.d (.i .i64 x.uf),.d (.i .i64 x.Oh)]
theorem dF.qz(x:dF): .agg (x.enc.map .d)=x.v:=by
 simp only[dF.aB,af,ap,az,ba,bc]
theorem dF.bV(x:dF):x.enc.length=2:=by
 simp only[dF.aB,ab,aa,ae]
def dF.sz(x:dF):Nat:=aY x.enc
theorem dF.cB(x:dF):aY x.enc=x.sz:=rfl
attribute [go_sem] ah.aB dI.aB bR.aB ak.aB aR.aB bC.aB bA.aB dx.aB aU.aB aZ.aB cO.aB bI.aB bY.aB bJ.aB aA.aB aS.aB dF.aB encS encI
def Oi:List dI->List UInt8->Option ah
 |[],_=>none
 |b::bs,v=>if b.fVar=v then some b.fType else Oi bs v
mutual
noncomputable def wV(s:List dI):ah->ah->Option (List dI)
 | .mk k n a,t=>
   if k=1 then
    match Oi s n with
    |some u=>if dec (u=t)=true then some s else none
    |none=>some (s++[⟨n,t⟩])
   else if k=t.aW/\n=t.fName/\a.length=t.fArgs.length then qF s a t.fArgs else none
noncomputable def qF(s:List dI):List ah->List ah->Option (List dI)
 |[],_=>some s
 |_::_,[]=>none
 |p::ps,t::ts=>
  match wV s p t with
  |some s'=>qF s' ps ts
  |none=>none
end
mutual
def ah.cnt:ah->Nat
 | .mk _ _ a=>1+ah.dG a
def ah.dG:List ah->Nat
 |[]=>0
 |t::ts=>t.cnt+ah.dG ts
end
theorem ah.kP(t:ah):t.cnt=1+ah.dG t.fArgs:=by cases t;rw[ah.cnt];rfl
mutual
theorem iP:∀t:ah,t.cnt<=1+t.sz
 | .mk k n a=>by
   have h:=ru a;rw[ah.cnt]
   have e:(ah.mk k n a).sz=n.length+(a.length+aH (a.map ah.enc)):=by
    simp only[ah.sz,ah.aB,aY,D.sz,al,ah.fName,ah.fArgs,eq,cT]
   omega
theorem ru:∀ts:List ah,ah.dG ts<=ts.length+aH (ts.map ah.enc)
 |[]=>by simp[ah.dG]
 |t::ts=>by
  have h1:=iP t;have h2:=ru ts;rw[ah.dG,aa,af,aH,ah.cB];omega
end
mutual
theorem Qt:∀(p:ah)(s:List dI)(t:ah)(s':List dI),wV s p t=some s'->s'.length<=s.length+p.cnt
 | .mk k n a,s,t,s',h=>by
   rw[wV] at h;rw[ah.cnt];split at h
   ·split at h
    ·split at h
     ·cases h;omega
     ·cases h
    ·cases h;simp
   ·split at h
    ·have:=E8 a s t.fArgs s' h;omega
    ·cases h
theorem E8:∀(ps:List ah)(s:List dI)(ts:List ah)(s':List dI),qF s ps ts=some s'->s'.length<=s.length+ah.dG ps
 |[],s,ts,s',h=>by rw[qF] at h;cases h;omega
 |p::ps,s,[],s',h=>by rw[qF] at h;cases h
 |p::ps,s,t::ts,s',h=>by
  rw[qF] at h;rw[ah.dG]
  cases hm:wV s p t with
  |none=>rw[hm] at h;cases h
  |some s1=>
   rw[hm] at h;have h1:=Qt p s t s1 hm;have h2:=E8 ps s1 ts s' h;omega
end
def Small(s:List dI):Prop:=∀b∈s,b.fType.sz<=4194304
mutual
theorem Lc:∀(p:ah)(s:List dI)(t:ah)(s':List dI),t.sz<=4194304->Small s->wV s p t=some s'->Small s'
 | .mk k n a,s,t,s',ht,hs,h=>by
   rw[wV] at h;split at h
   ·split at h
    ·split at h
     ·cases h;exact hs
     ·cases h
    ·cases h;intro b hb;rcases cR.1 hb with hb|hb
     ·exact hs b hb
     ·simp at hb;subst hb;exact ht
   ·split at h
    ·refine AY a s t.fArgs s' ?_ hs h;intro x hx;have h1:=dK (bd (f:=ah.enc) hx)
     have h2:t.sz=t.fName.length+(t.fArgs.length+aH (t.fArgs.map ah.enc)):=by
      simp only[ah.sz,ah.aB,aY,bG,D.sz,al,eq,cT]
     rw[ah.cB] at h1;omega
    ·cases h
theorem AY:∀(ps:List ah)(s:List dI)(ts:List ah)(s':List dI),(∀t∈ts,t.sz<=4194304)->Small s->qF s ps ts=some s'->Small s'
 |[],s,ts,s',ht,hs,h=>by rw[qF] at h;cases h;exact hs
 |p::ps,s,[],s',ht,hs,h=>by rw[qF] at h;cases h
 |p::ps,s,t::ts,s',ht,hs,h=>by
  rw[qF] at h
  cases hm:wV s p t with
  |none=>rw[hm] at h;cases h
  |some s1=>
   rw[hm] at h;exact AY ps s1 ts s' (fun x hx=>ht x (by simp[hx])) (Lc p s t s1 (ht t (by simp)) hs hm) h
end
end Go.Ab
namespace Go.Proofs.YtnmjbebcebbmfaaGreat.Fa
open Go Go.Ab
abbrev dZ(t c b:Nat)(z:List C):Prop:=prog.cellsOf t=c/\prog.bytesOf t=b/\(prog.info? t).isSome=true/\gF prog t=some z
theorem d9{t c b:Nat}{z:List C}(h1:prog.cellsOf t=c:=by kernel_rfl)(h2:prog.bytesOf t=b:=by kernel_rfl)(h3:(prog.info? t).isSome=true:=by kernel_rfl)(h4:gF prog t=some z:=by kernel_rfl):dZ t c b z:=⟨h1,h2,h3,h4⟩
theorem ty1:dZ 1 1 8 [.d (.o .nilFunc)]:=d9
theorem ty2:dZ 2 1 8 [.d (.i .i64 0)]:=d9
theorem ty3:dZ 3 1 8 [.d (.i .i64 0)]:=d9
theorem ty4:dZ 4 1 1 [.d (.b false)]:=d9
theorem acK:zeroV prog 4=some (.bool false):=by kernel_rfl
theorem ty5:dZ 5 1 1 [.d (.i .u8 0)]:=d9
theorem ty9:dZ 9 1 16 [.d (.s [])]:=d9
theorem adM:dZ 12 1 8 [.d (.i .u64 0)]:=d9
theorem adN:dZ 20 1 16 [.d (.o .nilIface)]:=d9
theorem adO:dZ 21 1 4 [.d (.i .i32 0)]:=d9
theorem adP:dZ 22 1 24 [.bF []]:=d9
theorem adQ:dZ 23 1 8 [.d (.o .nilFunc)]:=d9
theorem adR:dZ 24 1 24 [.bF []]:=d9
theorem adS:dZ 25 1 24 [.bF []]:=d9
theorem adT:dZ 26 1 24 [.bF []]:=d9
theorem adU:dZ 29 1 24 [.bF []]:=d9
theorem adV:dZ 34 1 8 [.d (.o (.pointer none))]:=d9
theorem adW:dZ 35 1 8 [.d (.o .nilFunc)]:=d9
theorem adX:dZ 36 1 8 [.d (.o .nilFunc)]:=d9
theorem adY:dZ 37 1 8 [.d (.o .nilFunc)]:=d9
theorem adZ:dZ 38 1 24 [.bF []]:=d9
theorem ad1:dZ 39 1 24 [.bF []]:=d9
theorem ad2:dZ 40 1 24 [.bF []]:=d9
theorem ad3:dZ 41 1 24 [.bF []]:=d9
theorem ad4:dZ 42 1 24 [.bF []]:=d9
theorem ad5:dZ 43 1 24 [.bF []]:=d9
theorem ad6:dZ 44 6 136 [.d (.s []),.bF [],.bF [],.bF [],.bF [],.bF []]:=d9
theorem ad7:dZ 45 6 136 [.d (.s []),.bF [],.bF [],.bF [],.bF [],.bF []]:=d9
theorem ad8:dZ 48 1 24 [.bF []]:=d9
theorem ad9:dZ 49 1 8 [.d (.o .nilFunc)]:=d9
theorem aea:dZ 50 1 8 [.d (.o .nilFunc)]:=d9
theorem aeb:dZ 51 1 8 [.d (.o .nilFunc)]:=d9
theorem aec:dZ 52 1 8 [.d (.o .nilFunc)]:=d9
theorem aed:dZ 53 3 40 [.bF [],.d (.i .i64 0),.d (.i .i64 0)]:=d9
theorem aee:dZ 54 3 40 [.bF [],.d (.i .i64 0),.d (.i .i64 0)]:=d9
theorem aef:dZ 56 1 8 [.d (.o .nilFunc)]:=d9
theorem aeg:dZ 57 1 8 [.d (.o .nilFunc)]:=d9
theorem aeh:dZ 58 1 8 [.d (.o .nilFunc)]:=d9
theorem aei:dZ 60 1 8 [.d (.o .nilFunc)]:=d9
theorem aej:dZ 63 1 24 [.bF []]:=d9
theorem aek:dZ 64 5 72 [.d (.s []),.bF [],.d (.b false),.d (.b false),.bF []]:=d9
theorem ael:dZ 65 5 72 [.d (.s []),.bF [],.d (.b false),.d (.b false),.bF []]:=d9
theorem aem:dZ 66 1 8 [.d (.o .nilFunc)]:=d9
theorem aen:dZ 67 1 24 [.bF []]:=d9
theorem aeo:dZ 68 3 64 [.d (.s []),.bF [],.bF []]:=d9
theorem aep:dZ 69 3 64 [.d (.s []),.bF [],.bF []]:=d9
theorem aer:dZ 70 1 8 [.d (.o .nilFunc)]:=d9
theorem aes:dZ 71 1 24 [.bF []]:=d9
theorem aeu:dZ 73 3 48 [.d (.i .i64 0),.d (.s []),.bF []]:=d9
theorem aev:dZ 74 1 24 [.bF []]:=d9
theorem aew:dZ 75 1 24 [.bF []]:=d9
theorem aex:dZ 77 12 192 [.d (.s []),.bF [],.d (.i .i64 0),.d (.s []),.bF [],.bF [],.d (.b false),.d (.b false),.d (.i .i64 0),.d (.s []),.bF [],.bF []]:=d9
theorem aey:dZ 79 1 24 [.bF []]:=d9
theorem aez:dZ 80 1 24 [.bF []]:=d9
theorem aeA:dZ 81 1 24 [.bF []]:=d9
theorem aeB:dZ 82 9 144 [.d (.i .i64 0),.d (.s []),.d (.s []),.d (.i .i64 0),.d (.i .i64 0),.d (.s []),.bF [],.bF [],.bF []]:=d9
theorem aeC:dZ 83 9 144 [.d (.i .i64 0),.d (.s []),.d (.s []),.d (.i .i64 0),.d (.i .i64 0),.d (.s []),.bF [],.bF [],.bF []]:=d9
theorem aeD:dZ 84 16 280 [.d (.s []),.bF [],.bF [],.bF [],.d (.i .i64 0),.d (.s []),.bF [],.d (.i .i64 0),.d (.s []),.d (.s []),.d (.i .i64 0),.d (.i .i64 0),.d (.s []),.bF [],.bF [],.bF []]:=d9
theorem aeE:dZ 85 16 280 [.d (.s []),.bF [],.bF [],.bF [],.d (.i .i64 0),.d (.s []),.bF [],.d (.i .i64 0),.d (.s []),.d (.s []),.d (.i .i64 0),.d (.i .i64 0),.d (.s []),.bF [],.bF [],.bF []]:=d9
theorem aeF:dZ 89 1 8 [.d (.o (.map none))]:=d9
theorem aeG:dZ 91 1 8 [.d (.o .nilFunc)]:=d9
theorem aeH:dZ 92 1 8 [.d (.o .nilFunc)]:=d9
theorem aeI:dZ 93 1 8 [.d (.o .nilFunc)]:=d9
theorem aeJ:dZ 95 1 8 [.d (.o .nilFunc)]:=d9
theorem aeK:dZ 96 1 8 [.d (.o .nilFunc)]:=d9
theorem aeL:dZ 97 1 8 [.d (.o .nilFunc)]:=d9
theorem acM:dZ 100 4 96 [.bF [],.bF [],.bF [],.bF []]:=d9
theorem acN:dZ 103 16 264 [.d (.s []),.bF [],.d (.i .i64 0),.d (.s []),.bF [],.d (.b false),.bF [],.d (.i .i64 0),.d (.s []),.d (.s []),.d (.i .i64 0),.d (.i .i64 0),.d (.s []),.bF [],.bF [],.bF []]:=d9
theorem acO:dZ 106 2 40 [.d (.s []),.bF []]:=d9
theorem acP:dZ 109 1 8 [.d (.o .nilFunc)]:=d9
theorem acQ:dZ 113 11 184 [.d (.s []),.bF [],.d (.i .i64 0),.d (.s []),.d (.s []),.d (.i .i64 0),.d (.i .i64 0),.d (.s []),.bF [],.bF [],.bF []]:=d9
theorem acR:dZ 126 4 64 [.d (.s []),.d (.i .i64 0),.d (.s []),.bF []]:=d9
theorem acS:dZ 130 4 64 [.d (.s []),.d (.i .i64 0),.d (.s []),.bF []]:=d9
theorem acT:dZ 131 1 8 [.d (.o .nilFunc)]:=d9
theorem acU:dZ 134 1 8 [.d (.o .nilFunc)]:=d9
theorem acV:dZ 137 1 8 [.d (.o .nilFunc)]:=d9
theorem acW:dZ 143 11 184 [.d (.s []),.bF [],.d (.i .i64 0),.d (.s []),.d (.s []),.d (.i .i64 0),.d (.i .i64 0),.d (.s []),.bF [],.bF [],.bF []]:=d9
theorem acX:dZ 144 1 8 [.d (.o .nilFunc)]:=d9
theorem acY:dZ 152 1 8 [.d (.o .nilFunc)]:=d9
theorem acZ:dZ 155 1 8 [.d (.o .nilFunc)]:=d9
theorem ac0:dZ 158 1 8 [.d (.o .nilFunc)]:=d9
theorem ac1:dZ 171 1 24 [.bF []]:=d9
theorem laidOut:laidOutB prog=true:=by kernel_rfl
theorem own:ownKnob prog.godebug=none:=by kernel_rfl
attribute [go_sem] ty1 underlying1 ty2 underlying2 ty3 underlying3 ty4 underlying4 acK ty5 underlying5 ty9 underlying9 adM underlying12 adN underlying20 adO underlying21 adP underlying22 adQ underlying23 adR underlying24 adS underlying25 adT underlying26 adU underlying29 adV underlying34 adW underlying35 adX underlying36 adY underlying37 adZ underlying38 ad1 underlying39 ad2 underlying40 ad3 underlying41 ad4 underlying42 ad5 underlying43 ad6 underlying44 ad7 underlying45 ad8 underlying48 ad9 underlying49 aea underlying50 aeb underlying51 aec underlying52 aed underlying53 aee underlying54 aef underlying56 aeg underlying57 aeh underlying58 aei underlying60 aej underlying63 aek underlying64 ael underlying65 aem underlying66 aen underlying67 aeo underlying68 aep underlying69 aer underlying70 aes underlying71 aeu underlying73 aev underlying74 aew underlying75 aex underlying77 aey underlying79 aez underlying80 aeA underlying81 aeB underlying82 aeC underlying83 aeD underlying84 aeE underlying85 aeF underlying89 aeG underlying91 aeH underlying92 aeI underlying93 aeJ underlying95 aeK underlying96 aeL underlying97 acM underlying100 acN underlying103 acO underlying106 acP underlying109 acQ underlying113 acR underlying126 acS underlying130 acT underlying131 acU underlying134 acV underlying137 acW underlying143 acX underlying144 acY underlying152 acZ underlying155 ac0 underlying158 ac1 underlying171
end Go.Proofs.YtnmjbebcebbmfaaGreat.Fa
namespace Go.Ab
def lowerB(b:UInt8):Prop:=97<=b.toNat/\b.toNat<=122
def nZ(b:UInt8):Prop:=48<=b.toNat/\b.toNat<=57
def Ld(s:List UInt8):Prop:=∀i,i<s.length->lowerB (s.getD i 0)\/(i≠0/\nZ (s.getD i 0))
def reserved:List (List UInt8):=[[105,110,116],[98,111,111,108],[97,115,115,111,99],[100,121,110],[105,102],[108,101,116],[99,97,115,101],[110,101,119],[109,101,116,104,111,100],[112,97,99,107],[116,114,117,101],[102,97,108,115,101]]
noncomputable def validName(s:List UInt8):Bool:=dec ((1<=s.length/\s.length<=8)/\s∉reserved/\Ld s)
noncomputable def qO(s:List UInt8):Bool:=dec (s=[105,110,116]\/s=[98,111,111,108])
noncomputable def qG(xs:List (List UInt8))(s:List UInt8):Int:=if s∈xs then((xs.findIdx fun x=>dec (x=s):Nat):Int) else -1
theorem Nj{xs:List (List UInt8)}{s:List UInt8}{i:Nat}(hi:i<xs.length)(hj:∀j,j<i->xs.getD j []≠s)(h:xs.getD i []=s):qG xs s=i:=by
 have e:∀j,∀hj:j<xs.length,xs.getD j []=xs[j]:=fun j hj=>by simp[List.getD,hj]
 have hm:s∈xs:=by rw[<-h,e i hi];exact ac hi
 unfold qG;rw[if_pos hm];congr 1;rw[List.findIdx_eq hi];exact⟨bg (by rw[<-e i hi];exact h),fun j hji=>aI (by rw[<-e j (by omega)];exact hj j hji)⟩
theorem TQ{xs:List (List UInt8)}{s:List UInt8}(hj:∀j,j<xs.length->xs.getD j []≠s):qG xs s= -1:=by
 unfold qG;refine if_neg fun hm=> ?_;obtain⟨j,h1,h2⟩:=bm hm;exact hj j h1 (by simp[List.getD,h1,h2])
theorem E9{xs:List (List UInt8)}{s:List UInt8}:decide (qG xs s>=0)=dec (s∈xs):=by
 rw[j3];refine dY ?_;unfold qG;split
 ·rename_i h;exact⟨fun _=>h,fun _=>by omega⟩
 ·rename_i h;exact⟨fun x=>by omega,fun x=>absurd x h⟩
def jM{α:Type}(p:α->Bool)(xs:List α):Int:=if xs.any p then((xs.findIdx p:Nat):Int) else -1
theorem jr{α:Type}{p:α->Bool}{xs:List α}{i:Nat}(hi:i<xs.length)(hj:∀j,∀hj:j<xs.length,j<i->p xs[j]=false)(h:p xs[i]=true):jM p xs=i:=by
 unfold jM;rw[if_pos (List.any_eq_true.2 ⟨xs[i],ac hi,h⟩)];congr 1;rw[List.findIdx_eq hi];exact⟨h,fun j hji=>hj j (by omega) hji⟩
theorem kZ{α:Type}{p:α->Bool}{xs:List α}(hj:∀j,∀hj:j<xs.length,p xs[j]=false):jM p xs= -1:=by
 unfold jM;refine if_neg fun h=> ?_;obtain⟨x,hx,hp⟩:=List.any_eq_true.1 h;obtain⟨j,h1,h2⟩:=bm hx;rw[<-h2,hj j h1] at hp;cases hp
theorem nN{α:Type}{p:α->Bool}{xs:List α}:decide (jM p xs>=0)=xs.any p:=by
 unfold jM
 cases h:xs.any p with
 |true=>simp
 |false=>simp
noncomputable def vY(k:Int)(n:List UInt8)(len:Nat):Bool:=
 dec ((k=1\/k=4)/\validName n=true/\len=0\/k=3/\validName n=true/\len=1\/k=2/\(validName n=true/\len<=3\/qO n=true/\len=0))
mutual
noncomputable def formed:ah->Bool
 | .mk k n a=>vY k n a.length&&kG a
noncomputable def kG:List ah->Bool
 |[]=>true
 |t::ts=>formed t&&kG ts
end
theorem uZ(t:ah):formed t=(vY t.aW t.fName t.fArgs.length&&kG t.fArgs):=by cases t;rw[formed];rfl
theorem CX:∀{ts:List ah},(ts.any fun t=> !formed t)= !kG ts
 |[]=>rfl
 |t::ts=>by rw[List.any_cons,CX (ts:=ts),kG];simp
mutual
def jC:ah->Nat
 | .mk _ _ a=>depths a
def depths:List ah->Nat
 |[]=>0
 |t::ts=>max (jC t+1) (depths ts)
end
theorem Io(t:ah):jC t=depths t.fArgs:=by cases t;rw[jC];rfl
mutual
theorem u6:∀t:ah,jC t+1<=t.cnt
 | .mk k n a=>by
   have:=Ip a;rw[jC,ah.cnt];omega
theorem Ip:∀ts:List ah,depths ts<=ah.dG ts
 |[]=>by simp[depths]
 |t::ts=>by
  have h1:=u6 t;have h2:=Ip ts;rw[depths,ah.dG];omega
end
noncomputable def kg(t:ah):Bool:=dec (formed t=true/\jC t<=6/\t.cnt<=60)
theorem ug(n a b:Int):aT prog 16 [.c (.d (.i .i64 n)),.c (.d (.i .i64 a)),.c (.d (.i .i64 b))] (.c (.d (.b (dec (a<=n/\n<=b))))):=fun S=>by
 refine zcx [.tmp 6] func16 ntmps16 ?_;simp -implicitDefEqProofs (disch:=omega) only[go_sem]
 with_reducible refine aj (fun hb=> ?_) (fun hb=> ?_)<;>have h:=hb<;>(try simp only[wf_preprocess] at h)<;>simp -implicitDefEqProofs (disch:=omega) only[go_sem,hb]<;>(repeat(with_reducible refine And.intro ?_ ?_;focus first|omega|rfl|assumption|exact⟨_,rfl,rfl⟩|(simp;omega)|(simp;done)))
 ·exact ay (by rw[j3];exact dY ⟨fun x=>⟨by omega,x⟩,fun x=>x.2⟩)
 ·exact ay (aI (by omega)).symm
theorem nO(xs:List (List UInt8))(s:List UInt8)(hl:xs.length<=1073741824):aT prog 44 [.c (.d (.sl (xs.map encS))),.c (.d (.s s))] (.c (.d (.b (dec (s∈xs))))):=fun S=>by
 refine zcx [.tmp 4] func44 ntmps44 ?_;simp -implicitDefEqProofs (disch:=omega) only[go_sem,encS]
 refine bn (ι:=Nat) zmx rfl [0,1,5] (fun i=>[.c (.d (.sl (xs.map encS))),.c (.d (.s s)),.c (.d (.i .i64 i))]) (fun _=>[]::S)
  (fun i=>i<=xs.length/\∀j,j<i->∀h:j<xs.length,xs[j]≠s) (fun i=>xs.length-i) 0 rfl rfl ⟨ao _,fun j h=>by omega⟩ ?_
 rintro i ⟨p1,p2⟩;simp -implicitDefEqProofs (disch:=omega) only[go_sem,encS]
 with_reducible refine aj (fun hb=> ?_) (fun hb=> ?_)<;>have h:=hb<;>(try simp only[wf_preprocess] at h)<;>simp -implicitDefEqProofs (disch:=omega) only[go_sem,hb,encS]<;>(repeat(with_reducible refine And.intro ?_ ?_;focus first|omega|rfl|assumption|exact⟨_,rfl,rfl⟩|(simp;omega)|(simp;done)))
 ·have hi:i<xs.length:=by omega
  with_reducible refine aj (fun hb=> ?_) (fun hb=> ?_)<;>have h:=hb<;>(try simp only[wf_preprocess] at h)<;>simp -implicitDefEqProofs (disch:=omega) only[go_sem,hb,encS]<;>(repeat(with_reducible refine And.intro ?_ ?_;focus first|omega|rfl|assumption|exact⟨_,rfl,rfl⟩|(simp;omega)|(simp;done)))
  ·exact ay (bg (by rw[<-h];exact ac hi)).symm
  ·refine bU (i+1) (by omega) rfl rfl ⟨by omega,fun j hj hl=> ?_⟩;by_cases e:j=i
   ·subst e;exact h
   ·exact p2 j (by omega) hl
 ·refine ay (aI fun hm=> ?_).symm;obtain⟨j,h1,h2⟩:=bm hm;exact p2 j (by omega) h1 h2
theorem Iq(xs:List (List UInt8))(s:List UInt8)(hl:xs.length<=1073741824):aT prog 56 [.c (.d (.sl (xs.map encS))),.c (.d (.s s))] (.c (.d (.i .i64 (qG xs s)))):=fun S=>by
 refine zcx [.tmp 4] func56 ntmps56 ?_;simp -implicitDefEqProofs (disch:=omega) only[go_sem,encS]
 refine bn (ι:=Nat) zmx rfl [0,1,7,8] (fun i=>[.c (.d (.sl (xs.map encS))),.c (.d (.s s)),.c (.d (.i .i64 xs.length)),.c (.d (.i .i64 i))]) (fun _=>[]::S)
  (fun i=>i<=xs.length/\∀j,j<i->xs.getD j []≠s) (fun i=>xs.length-i) 0 rfl rfl ⟨ao _,fun j h=>by omega⟩ ?_
 rintro i ⟨p1,p2⟩;simp -implicitDefEqProofs (disch:=omega) only[go_sem,encS]
 with_reducible refine aj (fun hb=> ?_) (fun hb=> ?_)<;>have h:=hb<;>(try simp only[wf_preprocess] at h)<;>simp -implicitDefEqProofs (disch:=omega) only[go_sem,hb,encS]<;>(repeat(with_reducible refine And.intro ?_ ?_;focus first|omega|rfl|assumption|exact⟨_,rfl,rfl⟩|(simp;omega)|(simp;done)))
 ·have hi:i<xs.length:=by omega
  have e:xs.getD i []=xs[i]:=by simp[List.getD,hi]
  with_reducible refine aj (fun hb=> ?_) (fun hb=> ?_)<;>have h:=hb<;>(try simp only[wf_preprocess] at h)<;>simp -implicitDefEqProofs (disch:=omega) only[go_sem,hb,encS]<;>(repeat(with_reducible refine And.intro ?_ ?_;focus first|omega|rfl|assumption|exact⟨_,rfl,rfl⟩|(simp;omega)|(simp;done)))
  ·rw[Nj hi p2 (by rw[e];exact h.symm)]
  ·refine bU (i+1) (by omega) rfl rfl ⟨by omega,fun j hj=> ?_⟩;by_cases e':j=i
   ·subst e';rw[e];exact fun x=>h x.symm
   ·exact p2 j (by omega)
 ·rw[TQ (fun j hj=>p2 j (by omega))]
theorem pF(xs:List (List UInt8))(s:List UInt8)(hl:xs.length<=1073741824):aT prog 40 [.c (.d (.sl (xs.map encS))),.c (.d (.s s))] (.c (.d (.b (dec (s∈xs))))):=fun S=>by
 refine zcx [.tmp 4] func40 ntmps40 ?_;simp -implicitDefEqProofs (disch:=omega) only[go_sem];refine au (Iq xs s hl) ?_;simp -implicitDefEqProofs (disch:=omega) only[go_sem]<;>(repeat(with_reducible refine And.intro ?_ ?_;focus first|omega|rfl|assumption|exact⟨_,rfl,rfl⟩|(simp;omega)|(simp;done)));exact ay E9
theorem Fb(s:List UInt8):aT prog 69 [.c (.d (.s s))] (.c (.d (.b (dec (s∈reserved))))):=fun S=>by
 refine zcx [.tmp 2] func69 ntmps69 ?_;simp -implicitDefEqProofs (disch:=omega) only[go_sem]
 (repeat(with_reducible refine And.intro ?_ ?_;focus first|omega|rfl|assumption|exact⟨_,rfl,rfl⟩|(simp;omega)|(simp;done)))
 refine au (nO reserved s (by decide)) ?_;simp -implicitDefEqProofs (disch:=omega) only[go_sem]<;>(repeat(with_reducible refine And.intro ?_ ?_;focus first|omega|rfl|assumption|exact⟨_,rfl,rfl⟩|(simp;omega)|(simp;done)))
theorem Fe(s:List UInt8):aT prog 54 [.c (.d (.s s))] (.c (.d (.b (dec (s∈reserved))))):=fun S=>by
 refine zcx [.tmp 2] func54 ntmps54 ?_;simp -implicitDefEqProofs (disch:=omega) only[go_sem]
 (repeat(with_reducible refine And.intro ?_ ?_;focus first|omega|rfl|assumption|exact⟨_,rfl,rfl⟩|(simp;omega)|(simp;done)))
 refine au (pF reserved s (by decide)) ?_;simp -implicitDefEqProofs (disch:=omega) only[go_sem]<;>(repeat(with_reducible refine And.intro ?_ ?_;focus first|omega|rfl|assumption|exact⟨_,rfl,rfl⟩|(simp;omega)|(simp;done)))
theorem Qu(b:UInt8):aT prog 52 [.c (.d (.i .u8 b.toNat))] (.c (.d (.b (dec (lowerB b))))):=fun S=>by
 refine zcx [.tmp 2] func52 ntmps52 ?_;simp -implicitDefEqProofs (disch:=omega) only[go_sem]
 with_reducible refine aj (fun hb=> ?_) (fun hb=> ?_)<;>have h:=hb<;>(try simp only[wf_preprocess] at h)<;>simp -implicitDefEqProofs (disch:=omega) only[go_sem,hb]<;>(repeat(with_reducible refine And.intro ?_ ?_;focus first|omega|rfl|assumption|exact⟨_,rfl,rfl⟩|(simp;omega)|(simp;done)))
 ·exact ay (by rw[j3];exact dY ⟨fun x=>⟨by omega,by omega⟩,fun x=>by have:=x.2;omega⟩)
 ·exact ay (aI fun x=>by have:=x.1;omega).symm
theorem Qv(b:UInt8):aT prog 53 [.c (.d (.i .u8 b.toNat))] (.c (.d (.b (dec (nZ b))))):=fun S=>by
 refine zcx [.tmp 2] func53 ntmps53 ?_;simp -implicitDefEqProofs (disch:=omega) only[go_sem]
 with_reducible refine aj (fun hb=> ?_) (fun hb=> ?_)<;>have h:=hb<;>(try simp only[wf_preprocess] at h)<;>simp -implicitDefEqProofs (disch:=omega) only[go_sem,hb]<;>(repeat(with_reducible refine And.intro ?_ ?_;focus first|omega|rfl|assumption|exact⟨_,rfl,rfl⟩|(simp;omega)|(simp;done)))
 ·exact ay (by rw[j3];exact dY ⟨fun x=>⟨by omega,by omega⟩,fun x=>by have:=x.2;omega⟩)
 ·exact ay (aI fun x=>by have:=x.1;omega).symm
theorem fA(s:List UInt8)(hl:s.length<=1073741824):aT prog 30 [.c (.d (.s s))] (.c (.d (.b (validName s)))):=fun S=>by
 refine zcx [.tmp 2] func30 ntmps30 ?_;simp -implicitDefEqProofs (disch:=omega) only[go_sem]
 refine bn (ι:=Nat) zmx rfl [0,5,6] (fun i=>[.c (.d (.s s)),.c (.d (.i .i64 s.length)),.c (.d (.i .i64 i))]) (fun _=>[]::S)
  (fun i=>i<=s.length/\∀j,j<i->lowerB (s.getD j 0)\/(j≠0/\nZ (s.getD j 0))) (fun i=>s.length-i) 0 rfl rfl ⟨ao _,fun j h=>by omega⟩ ?_
 rintro i ⟨p1,p2⟩
 have next:i<s.length->(lowerB (s.getD i 0)\/(i≠0/\nZ (s.getD i 0)))->∀j,j<i+1->lowerB (s.getD j 0)\/(j≠0/\nZ (s.getD j 0)):=fun hi h j hj=>by
  by_cases e:j=i
  ·subst e;exact h
  ·exact p2 j (by omega)
 have bad:i<s.length->¬(lowerB (s.getD i 0)\/(i≠0/\nZ (s.getD i 0)))->validName s=false:=fun hi h=>aI fun x=>h (x.2.2 i hi);simp -implicitDefEqProofs (disch:=omega) only[go_sem]
 with_reducible refine aj (fun hb=> ?_) (fun hb=> ?_)<;>have h:=hb<;>(try simp only[wf_preprocess] at h)<;>simp -implicitDefEqProofs (disch:=omega) only[go_sem,hb]<;>(repeat(with_reducible refine And.intro ?_ ?_;focus first|omega|rfl|assumption|exact⟨_,rfl,rfl⟩|(simp;omega)|(simp;done)))
 ·have hi:i<s.length:=by omega
  (repeat(with_reducible refine And.intro ?_ ?_;focus first|omega|rfl|assumption|exact⟨_,rfl,rfl⟩|(simp;omega)|(simp;done)))
  refine au (Qu (s.getD i 0)) ?_;simp -implicitDefEqProofs (disch:=omega) only[go_sem]<;>(repeat(with_reducible refine And.intro ?_ ?_;focus first|omega|rfl|assumption|exact⟨_,rfl,rfl⟩|(simp;omega)|(simp;done)))
  with_reducible refine aj (fun hb=> ?_) (fun hb=> ?_)<;>have h:=hb<;>(try simp only[wf_preprocess] at h)<;>simp -implicitDefEqProofs (disch:=omega) only[go_sem,hb]<;>(repeat(with_reducible refine And.intro ?_ ?_;focus first|omega|rfl|assumption|exact⟨_,rfl,rfl⟩|(simp;omega)|(simp;done)))
  ·have nl:=h
   with_reducible refine aj (fun hb=> ?_) (fun hb=> ?_)<;>have h:=hb<;>(try simp only[wf_preprocess] at h)<;>simp -implicitDefEqProofs (disch:=omega) only[go_sem,hb]<;>(repeat(with_reducible refine And.intro ?_ ?_;focus first|omega|rfl|assumption|exact⟨_,rfl,rfl⟩|(simp;omega)|(simp;done)))
   ·have i0:i=0:=by omega
    rw[bad hi (fun x=>x.elim nl fun y=>y.1 i0)]
   ·have ne:=h
    (repeat(with_reducible refine And.intro ?_ ?_;focus first|omega|rfl|assumption|exact⟨_,rfl,rfl⟩|(simp;omega)|(simp;done)))
    refine au (Qv (s.getD i 0)) ?_;simp -implicitDefEqProofs (disch:=omega) only[go_sem]<;>(repeat(with_reducible refine And.intro ?_ ?_;focus first|omega|rfl|assumption|exact⟨_,rfl,rfl⟩|(simp;omega)|(simp;done)))
    with_reducible refine aj (fun hb=> ?_) (fun hb=> ?_)<;>have h:=hb<;>(try simp only[wf_preprocess] at h)<;>simp -implicitDefEqProofs (disch:=omega) only[go_sem,hb]<;>(repeat(with_reducible refine And.intro ?_ ?_;focus first|omega|rfl|assumption|exact⟨_,rfl,rfl⟩|(simp;omega)|(simp;done)))
    ·rw[bad hi (fun x=>x.elim nl fun y=>h y.2)]
    ·exact bU (i+1) (by omega) rfl rfl ⟨by omega,next hi (.inr ⟨by omega,h⟩)⟩
  ·exact bU (i+1) (by omega) rfl rfl ⟨by omega,next hi (.inl h)⟩
 ·have hn:Ld s:=fun j hj=>p2 j (by omega)
  have h0:∀b,dec (s∈reserved)=b->∀c,decide ((s.length:Int)>=1)=c->∀d,decide ((s.length:Int)<=8)=d->validName s=(c&&d&& !b):=by
   rintro b rfl c rfl d rfl;unfold validName;rw[eh];simp only[oD,aq,decide_eq_true_eq,ep,AV];exact⟨fun x=>⟨⟨by omega,by omega⟩,x.2.1⟩,fun x=>⟨⟨by omega,by omega⟩,x.2,hn⟩⟩
  with_reducible refine aj (fun hb=> ?_) (fun hb=> ?_)<;>have h:=hb<;>(try simp only[wf_preprocess] at h)<;>simp -implicitDefEqProofs (disch:=omega) only[go_sem,hb]<;>(repeat(with_reducible refine And.intro ?_ ?_;focus first|omega|rfl|assumption|exact⟨_,rfl,rfl⟩|(simp;omega)|(simp;done)))
  ·have c1:=hb
   with_reducible refine aj (fun hb=> ?_) (fun hb=> ?_)<;>have h:=hb<;>(try simp only[wf_preprocess] at h)<;>simp -implicitDefEqProofs (disch:=omega) only[go_sem,hb]<;>(repeat(with_reducible refine And.intro ?_ ?_;focus first|omega|rfl|assumption|exact⟨_,rfl,rfl⟩|(simp;omega)|(simp;done)))
   ·refine au (Fe s) ?_;simp -implicitDefEqProofs (disch:=omega) only[go_sem]<;>(repeat(with_reducible refine And.intro ?_ ?_;focus first|omega|rfl|assumption|exact⟨_,rfl,rfl⟩|(simp;omega)|(simp;done)));exact ay (by rw[h0 _ rfl _ c1 _ hb];simp)
   ·exact ay (by rw[h0 _ rfl _ c1 _ hb];simp)
  ·exact ay (by rw[h0 _ rfl _ hb _ rfl];simp)
theorem fB(s:List UInt8)(hl:s.length<=1073741824):aT prog 42 [.c (.d (.s s))] (.c (.d (.b (validName s)))):=fun S=>by
 have bad:¬Ld s->validName s=false:=fun h=>aI fun x=>h x.2.2;refine zcx [.tmp 2] func42 ntmps42 ?_;simp -implicitDefEqProofs (disch:=omega) only[go_sem];refine au (ug s.length 1 8) ?_;simp -implicitDefEqProofs (disch:=omega) only[go_sem]<;>(repeat(with_reducible refine And.intro ?_ ?_;focus first|omega|rfl|assumption|exact⟨_,rfl,rfl⟩|(simp;omega)|(simp;done)))
 with_reducible refine aj (fun hb=> ?_) (fun hb=> ?_)<;>have h:=hb<;>(try simp only[wf_preprocess] at h)<;>simp -implicitDefEqProofs (disch:=omega) only[go_sem,hb]<;>(repeat(with_reducible refine And.intro ?_ ?_;focus first|omega|rfl|assumption|exact⟨_,rfl,rfl⟩|(simp;omega)|(simp;done)))
 ·rw[show validName s=false from aI fun x=>h (by omega)]
 have hlen:=h;refine au (Fb s) ?_;simp -implicitDefEqProofs (disch:=omega) only[go_sem]<;>(repeat(with_reducible refine And.intro ?_ ?_;focus first|omega|rfl|assumption|exact⟨_,rfl,rfl⟩|(simp;omega)|(simp;done)))
 with_reducible refine aj (fun hb=> ?_) (fun hb=> ?_)<;>have h:=hb<;>(try simp only[wf_preprocess] at h)<;>simp -implicitDefEqProofs (disch:=omega) only[go_sem,hb]<;>(repeat(with_reducible refine And.intro ?_ ?_;focus first|omega|rfl|assumption|exact⟨_,rfl,rfl⟩|(simp;omega)|(simp;done)))
 ·rw[show validName s=false from aI fun x=>x.2.1 h]
 have hres:=h
 refine bn (ι:=Nat) zmx rfl [0,3] (fun i=>[.c (.d (.s s)),.c (.d (.i .i64 i))]) (fun _=>[]::S)
  (fun i=>i<=s.length/\∀j,j<i->lowerB (s.getD j 0)\/(j≠0/\nZ (s.getD j 0))) (fun i=>s.length-i) 0 rfl rfl ⟨ao _,fun j h=>by omega⟩ ?_
 rintro i ⟨p1,p2⟩
 have next:i<s.length->(lowerB (s.getD i 0)\/(i≠0/\nZ (s.getD i 0)))->∀j,j<i+1->lowerB (s.getD j 0)\/(j≠0/\nZ (s.getD j 0)):=fun hi h j hj=>by
  by_cases e:j=i
  ·subst e;exact h
  ·exact p2 j (by omega)
 simp -implicitDefEqProofs (disch:=omega) only[go_sem]
 with_reducible refine aj (fun hb=> ?_) (fun hb=> ?_)<;>have h:=hb<;>(try simp only[wf_preprocess] at h)<;>simp -implicitDefEqProofs (disch:=omega) only[go_sem,hb]<;>(repeat(with_reducible refine And.intro ?_ ?_;focus first|omega|rfl|assumption|exact⟨_,rfl,rfl⟩|(simp;omega)|(simp;done)))
 ·have hi:i<s.length:=by omega
  have bad':¬(lowerB (s.getD i 0)\/(i≠0/\nZ (s.getD i 0)))->validName s=false:=fun h=>bad fun x=>h (x i hi)
  have next:=next hi
  unfold lowerB nZ at bad' next
  all_goals try(with_reducible refine aj (fun hb=> ?_) (fun hb=> ?_)<;>have h:=hb<;>(try simp only[wf_preprocess] at h)<;>simp -implicitDefEqProofs (disch:=omega) only[go_sem,hb]<;>(repeat(with_reducible refine And.intro ?_ ?_;focus first|omega|rfl|assumption|exact⟨_,rfl,rfl⟩|(simp;omega)|(simp;done))))
  all_goals try(with_reducible refine aj (fun hb=> ?_) (fun hb=> ?_)<;>have h:=hb<;>(try simp only[wf_preprocess] at h)<;>simp -implicitDefEqProofs (disch:=omega) only[go_sem,hb]<;>(repeat(with_reducible refine And.intro ?_ ?_;focus first|omega|rfl|assumption|exact⟨_,rfl,rfl⟩|(simp;omega)|(simp;done))))
  all_goals try(with_reducible refine aj (fun hb=> ?_) (fun hb=> ?_)<;>have h:=hb<;>(try simp only[wf_preprocess] at h)<;>simp -implicitDefEqProofs (disch:=omega) only[go_sem,hb]<;>(repeat(with_reducible refine And.intro ?_ ?_;focus first|omega|rfl|assumption|exact⟨_,rfl,rfl⟩|(simp;omega)|(simp;done))))
  all_goals try(with_reducible refine aj (fun hb=> ?_) (fun hb=> ?_)<;>have h:=hb<;>(try simp only[wf_preprocess] at h)<;>simp -implicitDefEqProofs (disch:=omega) only[go_sem,hb]<;>(repeat(with_reducible refine And.intro ?_ ?_;focus first|omega|rfl|assumption|exact⟨_,rfl,rfl⟩|(simp;omega)|(simp;done))))
  all_goals try(with_reducible refine aj (fun hb=> ?_) (fun hb=> ?_)<;>have h:=hb<;>(try simp only[wf_preprocess] at h)<;>simp -implicitDefEqProofs (disch:=omega) only[go_sem,hb]<;>(repeat(with_reducible refine And.intro ?_ ?_;focus first|omega|rfl|assumption|exact⟨_,rfl,rfl⟩|(simp;omega)|(simp;done))))
  all_goals try(with_reducible refine aj (fun hb=> ?_) (fun hb=> ?_)<;>have h:=hb<;>(try simp only[wf_preprocess] at h)<;>simp -implicitDefEqProofs (disch:=omega) only[go_sem,hb]<;>(repeat(with_reducible refine And.intro ?_ ?_;focus first|omega|rfl|assumption|exact⟨_,rfl,rfl⟩|(simp;omega)|(simp;done))))
  all_goals first
   |exact bU (i+1) (by omega) rfl rfl ⟨by omega,next (by omega)⟩
   |exact ay (bad' (by omega)).symm
 ·rw[show validName s=true from bg ⟨by omega,hres,fun j hj=>p2 j (by omega)⟩]
theorem TR(s:List UInt8):aT prog 155 [.c (.d (.s s))] (.c (.d (.b (qO s)))):=fun S=>by
 refine zcx [.tmp 2] func155 ntmps155 ?_;simp -implicitDefEqProofs (disch:=omega) only[go_sem]
 with_reducible refine aj (fun hb=> ?_) (fun hb=> ?_)<;>have h:=hb<;>(try simp only[wf_preprocess] at h)<;>simp -implicitDefEqProofs (disch:=omega) only[go_sem,hb]<;>(repeat(with_reducible refine And.intro ?_ ?_;focus first|omega|rfl|assumption|exact⟨_,rfl,rfl⟩|(simp;omega)|(simp;done)))
 ·exact ay (bg (.inl h)).symm
 ·exact ay (by rw[j3];exact dY ⟨fun x=>.inr x,fun x=>x.resolve_left h⟩)
theorem Le(s:List UInt8):aT prog 128 [.c (.d (.s s))] (.c (.d (.b (qO s)))):=fun S=>by
 refine zcx [.tmp 2] func128 ntmps128 ?_;simp -implicitDefEqProofs (disch:=omega) only[go_sem]
 with_reducible refine aj (fun hb=> ?_) (fun hb=> ?_)<;>have h:=hb<;>(try simp only[wf_preprocess] at h)<;>simp -implicitDefEqProofs (disch:=omega) only[go_sem,hb]<;>(repeat(with_reducible refine And.intro ?_ ?_;focus first|omega|rfl|assumption|exact⟨_,rfl,rfl⟩|(simp;omega)|(simp;done)))
 ·exact ay (bg (.inl h)).symm
 ·exact ay (by rw[j3];exact dY ⟨fun x=>.inr x,fun x=>x.resolve_left h⟩)
theorem Dy(g:Nat)(xs ys:List ak)(hl:xs.length<=1073741824)(hg:∀x∈xs,∀y,aT prog g [x.v,y.v] (.c (.d (.b (dec (x=y)))))):
 aT prog 124 [.c (.d (.sl (xs.map ak.enc))),.c (.d (.sl (ys.map ak.enc))),.c (.fn g [])] (.c (.d (.b (dec (xs=ys))))):=fun S=>by
 refine zcx [.tmp 6] func124 ntmps124 ?_;simp -implicitDefEqProofs (disch:=omega) only[go_sem]
 with_reducible refine aj (fun hb=> ?_) (fun hb=> ?_)<;>have h:=hb<;>(try simp only[wf_preprocess] at h)<;>simp -implicitDefEqProofs (disch:=omega) only[go_sem,hb]<;>(repeat(with_reducible refine And.intro ?_ ?_;focus first|omega|rfl|assumption|exact⟨_,rfl,rfl⟩|(simp;omega)|(simp;done)))
 ·exact ay (aI (fun e=>h (by rw[e]))).symm
 have hl':xs.length=ys.length:=by omega
 refine bn (ι:=Nat) zmx rfl [1,2,15,16,17] (fun y=>[.c (.d (.sl (ys.map ak.enc))),.c (.fn g []),.c (.d (.sl (xs.map ak.enc))),.c (.d (.i .i64 xs.length)),.c (.d (.i .i64 y))]) (fun y=>[]::S)
  (fun i=>i<=xs.length/\∀j,j<i->xs[j]? =ys[j]?) (fun y=>xs.length-y) 0 rfl rfl ⟨ao _,fun j h=>by omega⟩ ?_
 rintro i ⟨p1,p2⟩;simp -implicitDefEqProofs (disch:=omega) only[go_sem]
 with_reducible refine aj (fun hb=> ?_) (fun hb=> ?_)<;>have h:=hb<;>(try simp only[wf_preprocess] at h)<;>simp -implicitDefEqProofs (disch:=omega) only[go_sem,hb]<;>(repeat(with_reducible refine And.intro ?_ ?_;focus first|omega|rfl|assumption|exact⟨_,rfl,rfl⟩|(simp;omega)|(simp;done)))
 ·have hi:i<xs.length:=by omega
  have hi':i<ys.length:=by omega
  (repeat(with_reducible refine And.intro ?_ ?_;focus first|omega|rfl|assumption|exact⟨_,rfl,rfl⟩|(simp;omega)|(simp;done)))
  refine au (hg xs[i] (ac hi) ys[i]) ?_;simp -implicitDefEqProofs (disch:=omega) only[go_sem]
  with_reducible refine aj (fun hb=> ?_) (fun hb=> ?_)<;>have h:=hb<;>(try simp only[wf_preprocess] at h)<;>simp -implicitDefEqProofs (disch:=omega) only[go_sem,hb]<;>(repeat(with_reducible refine And.intro ?_ ?_;focus first|omega|rfl|assumption|exact⟨_,rfl,rfl⟩|(simp;omega)|(simp;done)))
  ·exact ay (aI (fun e=>h (by simp only[e]))).symm
  refine dL 0 (by decide) (i+1) (by omega) rfl rfl rfl rfl ⟨by omega,fun j hj=> ?_⟩;by_cases e:j=i
  ·subst e;rw[ag hi,ag hi',h]
  ·exact p2 j (by omega)
 ·have hi:i=xs.length:=by omega
  refine ay (bg (cy fun j=> ?_)).symm;by_cases hj:j<i
  ·exact p2 j hj
  ·rw[bp (by omega),bp (by omega)]
theorem Fg(g:Nat)(xs ys:List aR)(hl:xs.length<=1073741824)(hg:∀x∈xs,∀y,aT prog g [x.v,y.v] (.c (.d (.b (dec (x=y)))))):
 aT prog 125 [.c (.d (.sl (xs.map aR.enc))),.c (.d (.sl (ys.map aR.enc))),.c (.fn g [])] (.c (.d (.b (dec (xs=ys))))):=fun S=>by
 refine zcx [.tmp 6] func125 ntmps125 ?_;simp -implicitDefEqProofs (disch:=omega) only[go_sem]
 with_reducible refine aj (fun hb=> ?_) (fun hb=> ?_)<;>have h:=hb<;>(try simp only[wf_preprocess] at h)<;>simp -implicitDefEqProofs (disch:=omega) only[go_sem,hb]<;>(repeat(with_reducible refine And.intro ?_ ?_;focus first|omega|rfl|assumption|exact⟨_,rfl,rfl⟩|(simp;omega)|(simp;done)))
 ·exact ay (aI (fun e=>h (by rw[e]))).symm
 have hl':xs.length=ys.length:=by omega
 refine bn (ι:=Nat) zmx rfl [1,2,15,16,17] (fun y=>[.c (.d (.sl (ys.map aR.enc))),.c (.fn g []),.c (.d (.sl (xs.map aR.enc))),.c (.d (.i .i64 xs.length)),.c (.d (.i .i64 y))]) (fun y=>[]::S)
  (fun i=>i<=xs.length/\∀j,j<i->xs[j]? =ys[j]?) (fun y=>xs.length-y) 0 rfl rfl ⟨ao _,fun j h=>by omega⟩ ?_
 rintro i ⟨p1,p2⟩;simp -implicitDefEqProofs (disch:=omega) only[go_sem]
 with_reducible refine aj (fun hb=> ?_) (fun hb=> ?_)<;>have h:=hb<;>(try simp only[wf_preprocess] at h)<;>simp -implicitDefEqProofs (disch:=omega) only[go_sem,hb]<;>(repeat(with_reducible refine And.intro ?_ ?_;focus first|omega|rfl|assumption|exact⟨_,rfl,rfl⟩|(simp;omega)|(simp;done)))
 ·have hi:i<xs.length:=by omega
  have hi':i<ys.length:=by omega
  (repeat(with_reducible refine And.intro ?_ ?_;focus first|omega|rfl|assumption|exact⟨_,rfl,rfl⟩|(simp;omega)|(simp;done)))
  refine au (hg xs[i] (ac hi) ys[i]) ?_;simp -implicitDefEqProofs (disch:=omega) only[go_sem]
  with_reducible refine aj (fun hb=> ?_) (fun hb=> ?_)<;>have h:=hb<;>(try simp only[wf_preprocess] at h)<;>simp -implicitDefEqProofs (disch:=omega) only[go_sem,hb]<;>(repeat(with_reducible refine And.intro ?_ ?_;focus first|omega|rfl|assumption|exact⟨_,rfl,rfl⟩|(simp;omega)|(simp;done)))
  ·exact ay (aI (fun e=>h (by simp only[e]))).symm
  refine dL 0 (by decide) (i+1) (by omega) rfl rfl rfl rfl ⟨by omega,fun j hj=> ?_⟩;by_cases e:j=i
  ·subst e;rw[ag hi,ag hi',h]
  ·exact p2 j (by omega)
 ·have hi:i=xs.length:=by omega
  refine ay (bg (cy fun j=> ?_)).symm;by_cases hj:j<i
  ·exact p2 j hj
  ·rw[bp (by omega),bp (by omega)]
theorem Dz(g:Nat)(caps:List (Key×Nat))(S:Store)(xs:List ah)(p:ah->Bool)(hl:xs.length<=1073741824)(hp:∀x∈xs,jB prog g caps S [x.v] (.c (.d (.b (p x))))):
 bK prog 106 [.c (.d (.sl (xs.map ah.enc))),.c (.fn g caps)] S (fun r S'=>r=.c (.d (.i .i64 (jM p xs)))/\S'=S):=by
 refine zcx [.tmp 4] func106 ntmps106 ?_;simp -implicitDefEqProofs (disch:=omega) only[go_sem]
 refine bn (ι:=Nat) zmx rfl [0,1,7,8] (fun i=>[.c (.d (.sl (xs.map ah.enc))),.c (.fn g (gG 1 caps)),.c (.d (.i .i64 xs.length)),.c (.d (.i .i64 i))]) (fun _=>[]::S)
  (fun i=>i<=xs.length/\∀j,∀hj:j<xs.length,j<i->p xs[j]=false) (fun i=>xs.length-i) 0 rfl rfl ⟨ao _,fun j _ h=>by omega⟩ ?_
 rintro i ⟨p1,p2⟩;simp -implicitDefEqProofs (disch:=omega) only[go_sem]
 with_reducible refine aj (fun hb=> ?_) (fun hb=> ?_)<;>have h:=hb<;>(try simp only[wf_preprocess] at h)<;>simp -implicitDefEqProofs (disch:=omega) only[go_sem,hb]<;>(repeat(with_reducible refine And.intro ?_ ?_;focus first|omega|rfl|assumption|exact⟨_,rfl,rfl⟩|(simp;omega)|(simp;done)))
 ·have hi:i<xs.length:=by omega
  (repeat(with_reducible refine And.intro ?_ ?_;focus first|omega|rfl|assumption|exact⟨_,rfl,rfl⟩|(simp;omega)|(simp;done)))
  refine bq rfl (hp xs[i] (ac hi) [_]) ?_;simp -implicitDefEqProofs (disch:=omega) only[go_sem]
  with_reducible refine aj (fun hb=> ?_) (fun hb=> ?_)<;>have h:=hb<;>(try simp only[wf_preprocess] at h)<;>simp -implicitDefEqProofs (disch:=omega) only[go_sem,hb]<;>(repeat(with_reducible refine And.intro ?_ ?_;focus first|omega|rfl|assumption|exact⟨_,rfl,rfl⟩|(simp;omega)|(simp;done)))
  ·rw[jr hi p2 h]
  ·refine bU (i+1) (by omega) rfl rfl ⟨by omega,fun j hj hji=> ?_⟩;by_cases e:j=i
   ·subst e;exact h
   ·exact p2 j hj (by omega)
 ·rw[kZ (fun j hj=>p2 j hj (by omega))]
theorem Aa(g:Nat)(caps:List (Key×Nat))(S:Store)(xs:List ah)(p:ah->Bool)(hl:xs.length<=1073741824)(hp:∀x∈xs,jB prog g caps S [x.v] (.c (.d (.b (p x))))):
 bK prog 85 [.c (.d (.sl (xs.map ah.enc))),.c (.fn g caps)] S (fun r S'=>r=.c (.d (.b (xs.any p)))/\S'=S):=by
 refine zcx [.tmp 4] func85 ntmps85 ?_;simp -implicitDefEqProofs (disch:=omega) only[go_sem];refine bq rfl (Dz g (gG 1 caps) _ xs p hl fun x hx=>(hp x hx).push _) ?_;simp -implicitDefEqProofs (disch:=omega) only[go_sem];exact ay nN
theorem DC(g:Nat)(caps:List (Key×Nat))(S:Store)(xs:List ak)(p:ak->Bool)(hl:xs.length<=1073741824)(hp:∀x∈xs,jB prog g caps S [x.v] (.c (.d (.b (p x))))):
 bK prog 149 [.c (.d (.sl (xs.map ak.enc))),.c (.fn g caps)] S (fun r S'=>r=.c (.d (.i .i64 (jM p xs)))/\S'=S):=by
 refine zcx [.tmp 4] func149 ntmps149 ?_;simp -implicitDefEqProofs (disch:=omega) only[go_sem]
 refine bn (ι:=Nat) zmx rfl [0,1,7,8] (fun i=>[.c (.d (.sl (xs.map ak.enc))),.c (.fn g (gG 1 caps)),.c (.d (.i .i64 xs.length)),.c (.d (.i .i64 i))]) (fun _=>[]::S)
  (fun i=>i<=xs.length/\∀j,∀hj:j<xs.length,j<i->p xs[j]=false) (fun i=>xs.length-i) 0 rfl rfl ⟨ao _,fun j _ h=>by omega⟩ ?_
 rintro i ⟨p1,p2⟩;simp -implicitDefEqProofs (disch:=omega) only[go_sem]
 with_reducible refine aj (fun hb=> ?_) (fun hb=> ?_)<;>have h:=hb<;>(try simp only[wf_preprocess] at h)<;>simp -implicitDefEqProofs (disch:=omega) only[go_sem,hb]<;>(repeat(with_reducible refine And.intro ?_ ?_;focus first|omega|rfl|assumption|exact⟨_,rfl,rfl⟩|(simp;omega)|(simp;done)))
 ·have hi:i<xs.length:=by omega
  (repeat(with_reducible refine And.intro ?_ ?_;focus first|omega|rfl|assumption|exact⟨_,rfl,rfl⟩|(simp;omega)|(simp;done)))
  refine bq rfl (hp xs[i] (ac hi) [_]) ?_;simp -implicitDefEqProofs (disch:=omega) only[go_sem]
  with_reducible refine aj (fun hb=> ?_) (fun hb=> ?_)<;>have h:=hb<;>(try simp only[wf_preprocess] at h)<;>simp -implicitDefEqProofs (disch:=omega) only[go_sem,hb]<;>(repeat(with_reducible refine And.intro ?_ ?_;focus first|omega|rfl|assumption|exact⟨_,rfl,rfl⟩|(simp;omega)|(simp;done)))
  ·rw[jr hi p2 h]
  ·refine bU (i+1) (by omega) rfl rfl ⟨by omega,fun j hj hji=> ?_⟩;by_cases e:j=i
   ·subst e;exact h
   ·exact p2 j hj (by omega)
 ·rw[kZ (fun j hj=>p2 j hj (by omega))]
theorem Ac(g:Nat)(caps:List (Key×Nat))(S:Store)(xs:List ak)(p:ak->Bool)(hl:xs.length<=1073741824)(hp:∀x∈xs,jB prog g caps S [x.v] (.c (.d (.b (p x))))):
 bK prog 131 [.c (.d (.sl (xs.map ak.enc))),.c (.fn g caps)] S (fun r S'=>r=.c (.d (.b (xs.any p)))/\S'=S):=by
 refine zcx [.tmp 4] func131 ntmps131 ?_;simp -implicitDefEqProofs (disch:=omega) only[go_sem];refine bq rfl (DC g (gG 1 caps) _ xs p hl fun x hx=>(hp x hx).push _) ?_;simp -implicitDefEqProofs (disch:=omega) only[go_sem];exact ay nN
theorem Fh(g:Nat)(caps:List (Key×Nat))(S:Store)(xs:List aR)(p:aR->Bool)(hl:xs.length<=1073741824)(hp:∀x∈xs,jB prog g caps S [x.v] (.c (.d (.b (p x))))):
 bK prog 150 [.c (.d (.sl (xs.map aR.enc))),.c (.fn g caps)] S (fun r S'=>r=.c (.d (.i .i64 (jM p xs)))/\S'=S):=by
 refine zcx [.tmp 4] func150 ntmps150 ?_;simp -implicitDefEqProofs (disch:=omega) only[go_sem]
 refine bn (ι:=Nat) zmx rfl [0,1,7,8] (fun i=>[.c (.d (.sl (xs.map aR.enc))),.c (.fn g (gG 1 caps)),.c (.d (.i .i64 xs.length)),.c (.d (.i .i64 i))]) (fun _=>[]::S)
  (fun i=>i<=xs.length/\∀j,∀hj:j<xs.length,j<i->p xs[j]=false) (fun i=>xs.length-i) 0 rfl rfl ⟨ao _,fun j _ h=>by omega⟩ ?_
 rintro i ⟨p1,p2⟩;simp -implicitDefEqProofs (disch:=omega) only[go_sem]
 with_reducible refine aj (fun hb=> ?_) (fun hb=> ?_)<;>have h:=hb<;>(try simp only[wf_preprocess] at h)<;>simp -implicitDefEqProofs (disch:=omega) only[go_sem,hb]<;>(repeat(with_reducible refine And.intro ?_ ?_;focus first|omega|rfl|assumption|exact⟨_,rfl,rfl⟩|(simp;omega)|(simp;done)))
 ·have hi:i<xs.length:=by omega
  (repeat(with_reducible refine And.intro ?_ ?_;focus first|omega|rfl|assumption|exact⟨_,rfl,rfl⟩|(simp;omega)|(simp;done)))
  refine bq rfl (hp xs[i] (ac hi) [_]) ?_;simp -implicitDefEqProofs (disch:=omega) only[go_sem]
  with_reducible refine aj (fun hb=> ?_) (fun hb=> ?_)<;>have h:=hb<;>(try simp only[wf_preprocess] at h)<;>simp -implicitDefEqProofs (disch:=omega) only[go_sem,hb]<;>(repeat(with_reducible refine And.intro ?_ ?_;focus first|omega|rfl|assumption|exact⟨_,rfl,rfl⟩|(simp;omega)|(simp;done)))
  ·rw[jr hi p2 h]
  ·refine bU (i+1) (by omega) rfl rfl ⟨by omega,fun j hj hji=> ?_⟩;by_cases e:j=i
   ·subst e;exact h
   ·exact p2 j hj (by omega)
 ·rw[kZ (fun j hj=>p2 j hj (by omega))]
theorem AZ(g:Nat)(caps:List (Key×Nat))(S:Store)(xs:List aR)(p:aR->Bool)(hl:xs.length<=1073741824)(hp:∀x∈xs,jB prog g caps S [x.v] (.c (.d (.b (p x))))):
 bK prog 133 [.c (.d (.sl (xs.map aR.enc))),.c (.fn g caps)] S (fun r S'=>r=.c (.d (.b (xs.any p)))/\S'=S):=by
 refine zcx [.tmp 4] func133 ntmps133 ?_;simp -implicitDefEqProofs (disch:=omega) only[go_sem];refine bq rfl (Fh g (gG 1 caps) _ xs p hl fun x hx=>(hp x hx).push _) ?_;simp -implicitDefEqProofs (disch:=omega) only[go_sem];exact ay nN
theorem Ct(g:Nat)(caps:List (Key×Nat))(S:Store)(xs:List bR)(p:bR->Bool)(hl:xs.length<=1073741824)(hp:∀x∈xs,jB prog g caps S [x.v] (.c (.d (.b (p x))))):
 bK prog 111 [.c (.d (.sl (xs.map bR.enc))),.c (.fn g caps)] S (fun r S'=>r=.c (.d (.i .i64 (jM p xs)))/\S'=S):=by
 refine zcx [.tmp 4] func111 ntmps111 ?_;simp -implicitDefEqProofs (disch:=omega) only[go_sem]
 refine bn (ι:=Nat) zmx rfl [0,1,7,8] (fun i=>[.c (.d (.sl (xs.map bR.enc))),.c (.fn g (gG 1 caps)),.c (.d (.i .i64 xs.length)),.c (.d (.i .i64 i))]) (fun _=>[]::S)
  (fun i=>i<=xs.length/\∀j,∀hj:j<xs.length,j<i->p xs[j]=false) (fun i=>xs.length-i) 0 rfl rfl ⟨ao _,fun j _ h=>by omega⟩ ?_
 rintro i ⟨p1,p2⟩;simp -implicitDefEqProofs (disch:=omega) only[go_sem]
 with_reducible refine aj (fun hb=> ?_) (fun hb=> ?_)<;>have h:=hb<;>(try simp only[wf_preprocess] at h)<;>simp -implicitDefEqProofs (disch:=omega) only[go_sem,hb]<;>(repeat(with_reducible refine And.intro ?_ ?_;focus first|omega|rfl|assumption|exact⟨_,rfl,rfl⟩|(simp;omega)|(simp;done)))
 ·have hi:i<xs.length:=by omega
  (repeat(with_reducible refine And.intro ?_ ?_;focus first|omega|rfl|assumption|exact⟨_,rfl,rfl⟩|(simp;omega)|(simp;done)))
  refine bq rfl (hp xs[i] (ac hi) [_]) ?_;simp -implicitDefEqProofs (disch:=omega) only[go_sem]
  with_reducible refine aj (fun hb=> ?_) (fun hb=> ?_)<;>have h:=hb<;>(try simp only[wf_preprocess] at h)<;>simp -implicitDefEqProofs (disch:=omega) only[go_sem,hb]<;>(repeat(with_reducible refine And.intro ?_ ?_;focus first|omega|rfl|assumption|exact⟨_,rfl,rfl⟩|(simp;omega)|(simp;done)))
  ·rw[jr hi p2 h]
  ·refine bU (i+1) (by omega) rfl rfl ⟨by omega,fun j hj hji=> ?_⟩;by_cases e:j=i
   ·subst e;exact h
   ·exact p2 j hj (by omega)
 ·rw[kZ (fun j hj=>p2 j hj (by omega))]
theorem zu(g:Nat)(caps:List (Key×Nat))(S:Store)(xs:List bR)(p:bR->Bool)(hl:xs.length<=1073741824)(hp:∀x∈xs,jB prog g caps S [x.v] (.c (.d (.b (p x))))):
 bK prog 91 [.c (.d (.sl (xs.map bR.enc))),.c (.fn g caps)] S (fun r S'=>r=.c (.d (.b (xs.any p)))/\S'=S):=by
 refine zcx [.tmp 4] func91 ntmps91 ?_;simp -implicitDefEqProofs (disch:=omega) only[go_sem];refine bq rfl (Ct g (gG 1 caps) _ xs p hl fun x hx=>(hp x hx).push _) ?_;simp -implicitDefEqProofs (disch:=omega) only[go_sem];exact ay nN
theorem Ad(g:Nat)(caps:List (Key×Nat))(S:Store)(xs:List aA)(p:aA->Bool)(hl:xs.length<=1073741824)(hp:∀x∈xs,jB prog g caps S [x.v] (.c (.d (.b (p x))))):
 bK prog 28 [.c (.d (.sl (xs.map aA.enc))),.c (.fn g caps)] S (fun r S'=>r=.c (.d (.i .i64 (jM p xs)))/\S'=S):=by
 refine zcx [.tmp 4] func28 ntmps28 ?_;simp -implicitDefEqProofs (disch:=omega) only[go_sem]
 refine bn (ι:=Nat) zmx rfl [0,1,7,8] (fun i=>[.c (.d (.sl (xs.map aA.enc))),.c (.fn g (gG 1 caps)),.c (.d (.i .i64 xs.length)),.c (.d (.i .i64 i))]) (fun _=>[]::S)
  (fun i=>i<=xs.length/\∀j,∀hj:j<xs.length,j<i->p xs[j]=false) (fun i=>xs.length-i) 0 rfl rfl ⟨ao _,fun j _ h=>by omega⟩ ?_
 rintro i ⟨p1,p2⟩;simp -implicitDefEqProofs (disch:=omega) only[go_sem]
 with_reducible refine aj (fun hb=> ?_) (fun hb=> ?_)<;>have h:=hb<;>(try simp only[wf_preprocess] at h)<;>simp -implicitDefEqProofs (disch:=omega) only[go_sem,hb]<;>(repeat(with_reducible refine And.intro ?_ ?_;focus first|omega|rfl|assumption|exact⟨_,rfl,rfl⟩|(simp;omega)|(simp;done)))
 ·have hi:i<xs.length:=by omega
  (repeat(with_reducible refine And.intro ?_ ?_;focus first|omega|rfl|assumption|exact⟨_,rfl,rfl⟩|(simp;omega)|(simp;done)))
  refine bq rfl (hp xs[i] (ac hi) [_]) ?_;simp -implicitDefEqProofs (disch:=omega) only[go_sem]
  with_reducible refine aj (fun hb=> ?_) (fun hb=> ?_)<;>have h:=hb<;>(try simp only[wf_preprocess] at h)<;>simp -implicitDefEqProofs (disch:=omega) only[go_sem,hb]<;>(repeat(with_reducible refine And.intro ?_ ?_;focus first|omega|rfl|assumption|exact⟨_,rfl,rfl⟩|(simp;omega)|(simp;done)))
  ·rw[jr hi p2 h]
  ·refine bU (i+1) (by omega) rfl rfl ⟨by omega,fun j hj hji=> ?_⟩;by_cases e:j=i
   ·subst e;exact h
   ·exact p2 j hj (by omega)
 ·rw[kZ (fun j hj=>p2 j hj (by omega))]
theorem A8(g:Nat)(caps:List (Key×Nat))(S:Store)(xs:List (List UInt8))(p:(List UInt8)->Bool)(hl:xs.length<=1073741824)(hp:∀x∈xs,jB prog g caps S [.c (.d (.s x))] (.c (.d (.b (p x))))):
 bK prog 68 [.c (.d (.sl (xs.map encS))),.c (.fn g caps)] S (fun r S'=>r=.c (.d (.i .i64 (jM p xs)))/\S'=S):=by
 refine zcx [.tmp 4] func68 ntmps68 ?_;simp -implicitDefEqProofs (disch:=omega) only[go_sem,encS]
 refine bn (ι:=Nat) zmx rfl [0,1,7,8] (fun i=>[.c (.d (.sl (xs.map encS))),.c (.fn g (gG 1 caps)),.c (.d (.i .i64 xs.length)),.c (.d (.i .i64 i))]) (fun _=>[]::S)
  (fun i=>i<=xs.length/\∀j,∀hj:j<xs.length,j<i->p xs[j]=false) (fun i=>xs.length-i) 0 rfl rfl ⟨ao _,fun j _ h=>by omega⟩ ?_
 rintro i ⟨p1,p2⟩;simp -implicitDefEqProofs (disch:=omega) only[go_sem,encS]
 with_reducible refine aj (fun hb=> ?_) (fun hb=> ?_)<;>have h:=hb<;>(try simp only[wf_preprocess] at h)<;>simp -implicitDefEqProofs (disch:=omega) only[go_sem,hb,encS]<;>(repeat(with_reducible refine And.intro ?_ ?_;focus first|omega|rfl|assumption|exact⟨_,rfl,rfl⟩|(simp;omega)|(simp;done)))
 ·have hi:i<xs.length:=by omega
  (repeat(with_reducible refine And.intro ?_ ?_;focus first|omega|rfl|assumption|exact⟨_,rfl,rfl⟩|(simp;omega)|(simp;done)))
  refine bq rfl (hp xs[i] (ac hi) [_]) ?_;simp -implicitDefEqProofs (disch:=omega) only[go_sem,encS]
  with_reducible refine aj (fun hb=> ?_) (fun hb=> ?_)<;>have h:=hb<;>(try simp only[wf_preprocess] at h)<;>simp -implicitDefEqProofs (disch:=omega) only[go_sem,hb,encS]<;>(repeat(with_reducible refine And.intro ?_ ?_;focus first|omega|rfl|assumption|exact⟨_,rfl,rfl⟩|(simp;omega)|(simp;done)))
  ·rw[jr hi p2 h]
  ·refine bU (i+1) (by omega) rfl rfl ⟨by omega,fun j hj hji=> ?_⟩;by_cases e:j=i
   ·subst e;exact h
   ·exact p2 j hj (by omega)
 ·rw[kZ (fun j hj=>p2 j hj (by omega))]
theorem rz(g:Nat)(caps:List (Key×Nat))(S:Store)(xs:List (List UInt8))(p:(List UInt8)->Bool)(hl:xs.length<=1073741824)(hp:∀x∈xs,jB prog g caps S [.c (.d (.s x))] (.c (.d (.b (p x))))):
 bK prog 38 [.c (.d (.sl (xs.map encS))),.c (.fn g caps)] S (fun r S'=>r=.c (.d (.b (xs.any p)))/\S'=S):=by
 refine zcx [.tmp 4] func38 ntmps38 ?_;simp -implicitDefEqProofs (disch:=omega) only[go_sem,encS];refine bq rfl (A8 g (gG 1 caps) _ xs p hl fun x hx=>(hp x hx).push _) ?_;simp -implicitDefEqProofs (disch:=omega) only[go_sem,encS];exact ay nN
theorem TS(xs ys:List (List UInt8))(hl:xs.length<=1073741824):aT prog 127 [.c (.d (.sl (xs.map encS))),.c (.d (.sl (ys.map encS)))] (.c (.d (.b (dec (xs=ys))))):=fun S=>by
 refine zcx [.tmp 4] func127 ntmps127 ?_;simp -implicitDefEqProofs (disch:=omega) only[go_sem,encS]
 with_reducible refine aj (fun hb=> ?_) (fun hb=> ?_)<;>have h:=hb<;>(try simp only[wf_preprocess] at h)<;>simp -implicitDefEqProofs (disch:=omega) only[go_sem,hb,encS]<;>(repeat(with_reducible refine And.intro ?_ ?_;focus first|omega|rfl|assumption|exact⟨_,rfl,rfl⟩|(simp;omega)|(simp;done)))
 ·exact ay (aI (fun e=>h (by rw[e]))).symm
 have hl':xs.length=ys.length:=by omega
 refine bn (ι:=Nat) zmx rfl [0,1,12,13] (fun i=>[.c (.d (.sl (xs.map encS))),.c (.d (.sl (ys.map encS))),.c (.d (.i .i64 xs.length)),.c (.d (.i .i64 i))]) (fun _=>[]::S)
  (fun i=>i<=xs.length/\∀j,j<i->xs[j]? =ys[j]?) (fun y=>xs.length-y) 0 rfl rfl ⟨ao _,fun j h=>by omega⟩ ?_
 rintro i ⟨p1,p2⟩;simp -implicitDefEqProofs (disch:=omega) only[go_sem,encS]
 with_reducible refine aj (fun hb=> ?_) (fun hb=> ?_)<;>have h:=hb<;>(try simp only[wf_preprocess] at h)<;>simp -implicitDefEqProofs (disch:=omega) only[go_sem,hb,encS]<;>(repeat(with_reducible refine And.intro ?_ ?_;focus first|omega|rfl|assumption|exact⟨_,rfl,rfl⟩|(simp;omega)|(simp;done)))
 ·have hi:i<xs.length:=by omega
  have hi':i<ys.length:=by omega
  (repeat(with_reducible refine And.intro ?_ ?_;focus first|omega|rfl|assumption|exact⟨_,rfl,rfl⟩|(simp;omega)|(simp;done)))
  with_reducible refine aj (fun hb=> ?_) (fun hb=> ?_)<;>have h:=hb<;>(try simp only[wf_preprocess] at h)<;>simp -implicitDefEqProofs (disch:=omega) only[go_sem,hb,encS]<;>(repeat(with_reducible refine And.intro ?_ ?_;focus first|omega|rfl|assumption|exact⟨_,rfl,rfl⟩|(simp;omega)|(simp;done)))
  ·exact ay (aI (fun e=>h (by simp only[e]))).symm
  refine bU (i+1) (by omega) rfl rfl ⟨by omega,fun j hj=> ?_⟩;by_cases e:j=i
  ·subst e;rw[ag hi,ag hi',h]
  ·exact p2 j (by omega)
 ·have hi:i=xs.length:=by omega
  refine ay (bg (cy fun j=> ?_)).symm;by_cases hj:j<i
  ·exact p2 j hj
  ·rw[bp (by omega),bp (by omega)]
theorem Nk(xs ys:List (List UInt8))(hl:xs.length<=1073741824):aT prog 153 [.c (.d (.sl (xs.map encS))),.c (.d (.sl (ys.map encS)))] (.c (.d (.b (dec (xs=ys))))):=fun S=>by
 refine zcx [.tmp 4] func153 ntmps153 ?_;simp -implicitDefEqProofs (disch:=omega) only[go_sem,encS]
 with_reducible refine aj (fun hb=> ?_) (fun hb=> ?_)<;>have h:=hb<;>(try simp only[wf_preprocess] at h)<;>simp -implicitDefEqProofs (disch:=omega) only[go_sem,hb,encS]<;>(repeat(with_reducible refine And.intro ?_ ?_;focus first|omega|rfl|assumption|exact⟨_,rfl,rfl⟩|(simp;omega)|(simp;done)))
 ·exact ay (aI (fun e=>h (by rw[e]))).symm
 have hl':xs.length=ys.length:=by omega
 refine bn (ι:=Nat) zmx rfl [0,1,5] (fun i=>[.c (.d (.sl (xs.map encS))),.c (.d (.sl (ys.map encS))),.c (.d (.i .i64 i))]) (fun _=>[]::S)
  (fun i=>i<=xs.length/\∀j,j<i->xs[j]? =ys[j]?) (fun y=>xs.length-y) 0 rfl rfl ⟨ao _,fun j h=>by omega⟩ ?_
 rintro i ⟨p1,p2⟩;simp -implicitDefEqProofs (disch:=omega) only[go_sem,encS]
 with_reducible refine aj (fun hb=> ?_) (fun hb=> ?_)<;>have h:=hb<;>(try simp only[wf_preprocess] at h)<;>simp -implicitDefEqProofs (disch:=omega) only[go_sem,hb,encS]<;>(repeat(with_reducible refine And.intro ?_ ?_;focus first|omega|rfl|assumption|exact⟨_,rfl,rfl⟩|(simp;omega)|(simp;done)))
 ·have hi:i<xs.length:=by omega
  have hi':i<ys.length:=by omega
  (repeat(with_reducible refine And.intro ?_ ?_;focus first|omega|rfl|assumption|exact⟨_,rfl,rfl⟩|(simp;omega)|(simp;done)))
  with_reducible refine aj (fun hb=> ?_) (fun hb=> ?_)<;>have h:=hb<;>(try simp only[wf_preprocess] at h)<;>simp -implicitDefEqProofs (disch:=omega) only[go_sem,hb,encS]<;>(repeat(with_reducible refine And.intro ?_ ?_;focus first|omega|rfl|assumption|exact⟨_,rfl,rfl⟩|(simp;omega)|(simp;done)))
  ·exact ay (aI (fun e=>h (by simp only[e]))).symm
  refine bU (i+1) (by omega) rfl rfl ⟨by omega,fun j hj=> ?_⟩;by_cases e:j=i
  ·subst e;rw[ag hi,ag hi',h]
  ·exact p2 j (by omega)
 ·have hi:i=xs.length:=by omega
  refine ay (bg (cy fun j=> ?_)).symm;by_cases hj:j<i
  ·exact p2 j hj
  ·rw[bp (by omega),bp (by omega)]
end Go.Ab