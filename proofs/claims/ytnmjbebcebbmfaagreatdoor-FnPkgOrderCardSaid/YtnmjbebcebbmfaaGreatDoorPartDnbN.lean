/-
  SEVERAL TEXTS IN ONE (merged by program): contracts and models, each with its own heading.
-/
import Derived.Test.YtnmjbebcebbmfaaGreatDoorPartDnbD
set_option linter.unusedSimpArgs false
set_option linter.unusedVariables false
namespace Go.Ab
mutual
def vR:D->Nat
 | .sl es=>mH es+1
 | .ol _ _=>0
 | .b _=>0
 | .i _ _=>0
 | .s _=>0
 | .o _=>0
def Ez:List D->Nat
 |[]=>0
 |d::ds=>vR d+Ez ds
def mH:List (List D)->Nat
 |[]=>0
 |r::rs=>Ez r+mH rs
end
mutual
def rM:D->Nat->D
 | .sl es,n=>.ol n (eO es (n+1))
 | .ol m es,_=>.ol m es
 | .b x,_=>.b x
 | .i k x,_=>.i k x
 | .s l,_=>.s l
 | .o v,_=>.o v
def fE:List D->Nat->List D
 |[],_=>[]
 |d::ds,n=>rM d n::fE ds (n+vR d)
def eO:List (List D)->Nat->List (List D)
 |[],_=>[]
 |r::rs,n=>fE r n::eO rs (n+Ez r)
end
mutual
def xW:D->Bool
 | .sl es=>qg es
 | .ol _ _=>false
 | .b _=>true
 | .i _ _=>true
 | .s _=>true
 | .o _=>false
def l8:List D->Bool
 |[]=>true
 |d::ds=>xW d&&l8 ds
def qg:List (List D)->Bool
 |[]=>true
 |r::rs=>l8 r&&qg rs
end
theorem O9:∀a b n,fE (a++b) n=fE a n++fE b (n+Ez a)
 |[],b,n=>by simp[fE,Ez]
 |d::ds,b,n=>by rw[ba,fE,fE,O9 ds b,Ez,ec];rfl
theorem qO:∀a b n,eO (a++b) n=eO a n++eO b (n+mH a)
 |[],b,n=>by simp[eO,mH]
 |d::ds,b,n=>by rw[ba,eO,eO,qO ds b,mH,ec];rfl
theorem sV:∀r n,(fE r n).length=r.length
 |[],_=>rfl
 |d::ds,n=>by rw[fE,aa,sV ds,aa]
theorem kT:∀rs n,(eO rs n).length=rs.length
 |[],_=>rfl
 |r::rs,n=>by rw[eO,aa,kT rs,aa]
theorem zm{z:Nat}:∀{rs:List (List D)}{n:Nat},(∀r∈rs,r.length=z)->∀r∈eO rs n,r.length=z
 |[],_,_,r,h=>by rw[eO] at h;cases h
 |a::rs,n,ha,r,h=>by
  rw[eO] at h;rcases cT.1 h with e|h
  ·rw[e,sV];exact ha a gL
  ·exact zm (fun r hr=>ha r (by simp[hr])) r h
theorem jD:∀a b,l8 (a++b)=(l8 a&&l8 b)
 |[],b=>by simp[l8]
 |d::ds,b=>by rw[ba,l8,l8,jD ds b,fW]
theorem rO{α:Type}{f:α->List D}:∀{xs:List α},(∀x∈xs,l8 (f x)=true)->qg (xs.map f)=true
 |[],_=>rfl
 |x::xs,h=>by
  rw[af,qg,h x gL,rO fun y hy=>h y (by simp[hy])];rfl
section
variable {P:Program} {w:World} {σ σ':Nat->Nat} {S:Store} {β:Hs} {N:Nat} {s:St}
mutual
theorem alH:∀(d:D)(n:Nat)(v:Value),dO w σ (rM d n) v->dO w σ d v
 | .sl es,n,v,h=>by
   rw[rM] at h;have hl:=kT es (n+1);have hrec:=afa es (n+1);generalize eO es (n+1)=q at h hl hrec
   cases h with
   |xO n a cap=>
    have:es=[]:=bz (by simpa using hl.symm);subst this;exact .nil a cap
   |ol n b off cap bB q vals c t hcap hlen hb hσ hfit hc hv hx=>
    obtain⟨r1,r2⟩:=hrec vals hv;rw[hl] at hcap hfit hc ⊢;refine .sl b off cap bB es vals c t (0,0) hcap (fun e he=> ?_) hb gA hc r2;obtain⟨e',h1,h2⟩:=r1 e he;rw[<-h2];exact hlen e' h1
 | .ol m es,n,v,h=>h
 | .b x,n,v,h=>h
 | .i k x,n,v,h=>h
 | .s l,n,v,h=>h
 | .o u,n,v,h=>h
theorem aq4:∀(r:List D)(n:Nat)(vals:Nat->Value),(∀j d,(fE r n)[j]? =some d->dO w σ d (vals j))->∀(j:Nat) d,r[j]? =some d->dO w σ d (vals j)
 |[],n,vals,h,j,d,hd=>by simp at hd
 |a::r,n,vals,h,j,d,hd=>by
  cases j with
  |zero=>
   simp at hd;subst hd;exact alH a n _ (h 0 _ rfl)
  |succ j=>exact aq4 r (n+vR a) (fun i=>vals (i+1)) (fun i d hi=>h (i+1) d (by rw[fE];exact hi)) j d hd
theorem afa:∀(rs:List (List D))(n:Nat)(vals:Nat->Value),(∀j d,(eO rs n).flatten[j]? =some d->dO w σ d (vals j))->
 (∀e∈rs,∃e'∈eO rs n,e'.length=e.length)/\∀(j:Nat) d,rs.flatten[j]? =some d->dO w σ d (vals j)
 |[],n,vals,h=>⟨fun e he=>(by cases he),fun j d hd=>(by simp at hd)⟩
 |r::rs,n,vals,h=>by
  rw[eO,cF] at h;have h1:=aq4 r n vals fun j d hd=>h j d (by rw[aq (ap.1 hd).1];exact hd);obtain⟨h2,h3⟩:=afa rs (n+Ez r) (fun i=>vals (r.length+i)) fun j d hd=>h (r.length+j) d (by rw[ag (by rw[sV];omega),sV,cY];exact hd);refine⟨fun e he=> ?_,fun j d hd=> ?_⟩
  ·rcases cT.1 he with e1|he
   ·subst e1;exact⟨_,by rw[eO];exact ey ..,sV _ _⟩
   ·obtain⟨e',q1,q2⟩:=h2 e he;exact⟨e',by rw[eO];exact eC _ q1,q2⟩
  ·rw[cF] at hd;by_cases hj:j<r.length
   ·rw[aq hj] at hd;exact h1 j d hd
   ·rw[ag gA] at hd;have:=h3 (j-r.length) d hd
    rwa [show r.length+(j-r.length)=j by omega] at this
end
theorem GK{r:List D}{n:Nat}:Less (.agg ((fE r n).map .d)) (.agg (r.map .d)):=by
 rintro w σ S β v ⟨a,ha,hl,hc⟩;rw[ab,sV] at hl;refine⟨a,ha,by rw[ab];exact hl,?_⟩
 have key:∀(r:List D)(n:Nat)(vs:List Value),(∀(j:Nat)(x:C),((fE r n).map C.d)[j]? =some x->∃v:Value,vs[j]? =some v/\jc w σ S β x v/\v.oneCell'=true)->
  ∀(j:Nat)(x:C),(r.map C.d)[j]? =some x->∃v:Value,vs[j]? =some v/\jc w σ S β x v/\v.oneCell'=true:=by
  intro r
  induction r with
  |nil=>intro n vs h j x hx;simp at hx
  |cons d ds ih=>
   intro n vs h j x hx
   cases j with
   |zero=>
    simp at hx;subst hx;obtain⟨v,h1,h2,h3⟩:=h 0 (.d (rM d n)) rfl;exact⟨v,h1,alH d n v h2,h3⟩
   |succ j=>
    have:=ih (n+vR d) vs.tail (fun i y hy=>by
     obtain⟨v,h1,h2⟩:=h (i+1) y (by rw[fE,af];exact hy);refine⟨v,?_,h2⟩
     cases vs with
     |nil=>simp at h1
     |cons a b=>exact h1) j x hx
    obtain⟨v,h1,h2⟩:=this;refine⟨v,?_,h2⟩
    cases vs with
    |nil=>simp at h1
    |cons a b=>exact h1
 exact key r n _ hc
theorem VD{r:List D}{n:Nat}{w:World}{σ:Nat->Nat}{S:Store}{β:Hs}{vs:List Value}(h:gN w σ S β ((fE r n).map .d) vs):gN w σ S β (r.map .d) vs:=by
 obtain⟨a,ha,hc⟩:=GK w σ S β (.agg vs.toArray) ⟨vs.toArray,rfl,by simpa using h⟩;cases ha;simpa using hc
inductive xg:List V->List V->Prop
 |nil:xg [] []
 |cons {x y:V} {xs ys:List V}:Less x y->xg xs ys->xg (x::xs) (y::ys)
theorem xg.length:∀{xs ys:List V},xg xs ys->xs.length=ys.length
 |_,_,.nil=>rfl
 |_,_,.cons _ h=>by rw[aa,aa,xg.length h]
theorem xg.at:∀{xs ys:List V},xg xs ys->∀(j:Nat)(x y:V),xs[j]? =some x->ys[j]? =some y->Less x y
 |_,_,.nil,j,x,y,h,_=>by simp at h
 |_,_,.cons a h,0,x,y,h1,h2=>by simp at h1 h2;subst h1;subst h2;exact a
 |_,_,.cons a h,j+1,x,y,h1,h2=>xg.at h j x y (by simpa using h1) (by simpa using h2)
theorem aD.args{f:FuncId}{args args':List V}{r:V}(h:aD P f args' r)(hl:xg args args'):aD P f args r:=fun S=>(h S).weaken hl.length fun j x y hx hy w σ β v hr=>hl.at j x y hx hy w σ S β v hr
theorem lQ{dr:Option Nat}{f:FuncId}{args args':List V}{dst:Option Nat}{K:St->Prop}{r:V}(h:aD P f args' r)(hl:xg (args.map V.vw) args')(hK:K (s.put dst r)):fH P dr f args s dst K:=bn (h.args hl) hK
def alI(row:Bool)(j n:Nat)(es:List (List D))(tm:List (Nat×V)):List (Nat×V):=tm.map fun x=>(x.1,x.2.ny (C.lab row j n es))
theorem aii{row:Bool}{j n:Nat}{es:List (List D)}{tm:List (Nat×V)}{t:Nat}:look (alI row j n es tm) t=(look tm t).ny (C.lab row j n es):=Ku (f:=V.ny (C.lab row j n es)) rfl tm t
def afb(j n:Nat)(tm:List (Nat×V))(own:List Obj)(Ω:Store):Option Obj->St
 |some (.fM _ es)=>⟨alI true j n es tm,(own.map (Obj.ny (C.lab true j n es))).set j .dead::Ω⟩
 |some (.eP m _ es)=>⟨alI false j m es tm,(own.map (Obj.ny (C.lab false j m es))).set j .dead::Ω⟩
 |_=>⟨tm,own::Ω⟩
def Xx(j n:Nat)(s:St):St:=
 match s.st with
 |own::Ω=>afb j n s.tm own Ω (own[j]?)
 |[]=>s
def Sc:Nat->Nat->St->St
 |0,_,s=>s
 |k+1,n,s=>Sc k n (Xx k n s)
def JM(n:Nat)(s:St):St:=
 match s.st with
 |own::_=>Sc own.length n s
 |[]=>s
theorem Pb(j n:Nat)(s:St):iK N s (Xx j n s):=by
 obtain⟨tm,st⟩:=s
 cases st with
 |nil=>exact iK.refl _ _
 |cons own Ω=>
  show iK N ⟨tm,own::Ω⟩ (afb j n tm own Ω (own[j]?))
  cases ho:own[j]? with
  |none=>exact iK.refl _ _
  |some o=>
   cases o with
   |fM z es=>exact fun a w σ β hR=>acI j n z es true ho hR
   |eP m z es=>exact fun a w σ β hR=>acI j m z es false ho hR
   |_=>exact iK.refl _ _
theorem Pf:∀(k n:Nat)(s:St),iK N s (Sc k n s)
 |0,n,s=>iK.refl _ _
 |k+1,n,s=>(Pb k n s).trans (Pf k n _)
theorem GL(n:Nat)(s:St):iK N s (JM n s):=by
 unfold JM;split
 ·exact Pf _ _ _
 ·exact iK.refl _ _
theorem alJ{j n:Nat}{tm:List (Nat×V)}{own:List Obj}{Ω:Store}:Xx j n ⟨tm,own::Ω⟩=afb j n tm own Ω (own[j]?):=rfl
theorem aij{n:Nat}{tm:List (Nat×V)}{own:List Obj}{Ω:Store}:JM n ⟨tm,own::Ω⟩=Sc own.length n ⟨tm,own::Ω⟩:=rfl
def Zm(P:Program)(n:Nat)(rs:List ResultVar)(post:V->Store->Prop)(e:Exit)(s:St):Prop:=ajR P rs post e (JM n s)
theorem alK{n:Nat}{rs:List ResultVar}{post:V->Store->Prop}:Zm P n rs post .ret s=YN P rs post (JM n s):=rfl
theorem abM{n:Nat}{rs:List ResultVar}{post:V->Store->Prop}:Zm P n rs post .normal s=YN P rs post (JM n s):=rfl
theorem lF(n:Nat){f:FuncId}{fn:Func}{c:Code}{args:List V}{post:V->Store->Prop}{rs:List ResultVar}(gP:P.follows .mixedOrders=true)(hf:P.funcs[f]? =some fn)(hN:fn.ntmps=N)
 (hb:fn.body=some c) (hn:(fn.name== "runtime.NumGoroutine")=false) (hr:fn.results.toList=rs) (hl:Nat.ble args.length N=true) (hok:codeOk N c=true)
 (h:CW P N c (Zm P n rs post) ⟨mV (args.map (V.up 1)) 0,[.seed n]::S⟩):bS P f args S post:=by
 subst hN;subst hr;exact sP hf hb hn (dd hl) (Ua n (yA (GL n) (lG gP c _ _ hok h)))
theorem alL{row:Bool}{j n l i:Nat}{es es':List (List D)}:C.lab row j n es (.bJ (1+l,i) es')=.bJ (1+l,i) es':=by rw[eq];rfl
theorem alM{row:Bool}{j n i:Nat}{es es':List (List D)}:C.lab row j n es (.bJ (0,i) es')=if i=j/\row=false/\es'.length=es.length then .d (.ol n es) else .bJ (0,i) es':=rfl
theorem alN{row:Bool}{j n l i:Nat}{es:List (List D)}:C.lab row j n es (.jO (1+l,i))=.jO (1+l,i):=by rw[eq];rfl
theorem alO{row:Bool}{j n i:Nat}{es:List (List D)}:C.lab row j n es (.jO (0,i))=if i=j/\row=true then .d (.ol n es) else .jO (0,i):=rfl
theorem atw{row:Bool}{j n:Nat}{es:List (List D)}{x:D}:C.lab row j n es (.d x)=.d x:=rfl
theorem aoY{row:Bool}{j n:Nat}{es:List (List D)}:C.lab row j n es .any=.any:=rfl
theorem aoZ{row:Bool}{j n:Nat}{es es':List (List D)}:C.lab row j n es (.bH es')=.bH es':=rfl
theorem ao0{row:Bool}{j n m:Nat}{es es':List (List D)}:C.lab row j n es (.mE m es')=.mE m es':=rfl
theorem ao1{row:Bool}{j n off:Nat}{es:List (List D)}{k:Key}:C.lab row j n es (.ptr k off)=.ptr k off:=rfl
theorem aq5{row:Bool}{j n f:Nat}{es:List (List D)}{caps:List (Key×Nat)}:C.lab row j n es (.fn f caps)=.fn f caps:=rfl
theorem alP{row:Bool}{j n:Nat}{es:List (List D)}{cs:List D}:C.lab row j n es (.om cs)=.om cs:=rfl
theorem lH{ι:Type}{ts:List Nat}{f:ι->List V}{g:ι->Store}{p:ι->Prop}{μ:ι->Nat}{i:ι}{tm:List (Nat×V)}{own:List Obj}{Ω:Store}{m:Nat}(m' n:Nat)(hnd:ts.Nodup)(j:ι)(h1:μ j<μ i)(h2:ts.map (look tm)=f j)(h3:(Obj.seed m'::own.take n)::Ω=g j)
 (hr:jh (n+1) (iy ts (f j))=true)(ho:(own.take n).all (Obj.refs (n+1))=true)(h4:p j):Inv N ts f g p μ i ⟨tm,(.seed m::own)::Ω⟩:=by
 refine⟨j,⟨iy ts (f j),(.seed m'::own.take n)::Ω⟩,h1,?_,?_,h3,h4⟩
 ·have hg:iK N ⟨tm,(.seed m::own)::Ω⟩ ⟨iy ts (f j),(.seed m::own)::Ω⟩:=by
   rw[<-h2];exact PK fun t=>Cx _ ts t
  refine hg.trans ((Rf (n+1) hr ?_).trans (Gm m'));rw[eL,dv,ho];rfl
 ·exact Gq ts (f j) hnd (by rw[<-h2];simp)
end
attribute [go_sem ↓] alK abM aij
attribute [go_sem] Sc alJ afb aii V.ny Obj.ny alL alM alN alO atw aoY aoZ ao0 ao1 aq5 alP
section
variable {P:Program} {w w':World} {σ σ':Nat->Nat} {S:Store} {β:Hs}
def Ea(w:World)(σ:Nat->Nat)(lo hi b:Nat):Prop:=∃c t fz m,w.heap[b]? =some (.cells c t fz)/\σ b=c.size+1+m/\lo<=m/\m<hi
theorem Ea.mono{lo hi lo' hi' b:Nat}(h:Ea w σ lo hi b)(h1:lo'<=lo)(h2:hi<=hi'):Ea w σ lo' hi' b:=by
 obtain⟨c,t,fz,m,a1,a2,a3,a4⟩:=h;exact⟨c,t,fz,m,a1,a2,gA,gA⟩
theorem Ea.apart{lo hi lo' hi' b:Nat}(h:Ea w σ lo hi b)(h':Ea w σ lo' hi' b)(ho:hi<=lo'):False:=by
 obtain⟨c,t,fz,m,a1,a2,a3,a4⟩:=h;obtain⟨c',t',fz',m',b1,b2,b3,b4⟩:=h';rw[a1] at b1;cases b1;omega
abbrev Kids:=List (List (Option Value))
def Fz(rows:Kids)(i o:Nat):Option Value:=((rows[i]?).bind fun r=>r[o]?).bind id
def anA(rows:Kids):Array Value:=(rows.map fun r=>Value.tuple (r.map fun u=>u.getD (.bool false)).toArray).toArray
def mkT(v:Value)(rows:Kids):Value:=.tuple #[v,.tuple (anA rows)]
def IsT(v:Value):Prop:=∃a,v=.tuple a
theorem ao2{v:Value}{rows:Kids}(h:∀i o u,Fz rows i o=some u->IsT u)(i o:Nat):kid (mkT v rows) i o=Fz rows i o:=by
 have h':=h i o
 unfold kid mkT anA Fz at *
 simp only[dc,fa,fo,bE]
 cases hr:rows[i]? with
 |none=>rfl
 |some r=>
  rw[hr] at h';simp only[dC,dc,bE]
  cases hu:r[o]? with
  |none=>simp[hu]
  |some u=>
   simp only[dy,hu,id] at h'
   cases u with
   |none=>simp[hu]
   |some u=>
    obtain⟨a,rfl⟩:=h' u rfl;simp[hu]
def anB(w:World)(d:D)(v:Value)(u:Option Value):Prop:=
 match d with
 | .sl es=>∃T,u=some T/\IsT T/\hdr T=some v/\vG w es T
 |d=>u=none/\SD d v
theorem Zn{z:Nat}:∀{rs:List (List D)}{n:Nat},(∀r∈eO rs n,r.length=z)->∀r∈rs,r.length=z
 |[],_,_,r,h=>by cases h
 |a::rs,n,ha,r,h=>by
  rw[eO] at ha;rcases cT.1 h with e|h
  ·subst e;rw[<-sV r n];exact ha _ gL
  ·exact Zn (n:=n+Ez a) (fun r hr=>ha r (by simp[hr])) r h
structure axq(w:World)(σ:Nat->Nat)(r:List D)(n m:Nat)(vals:Nat->Value)(us:List (Option Value)):Prop where
 len:us.length=r.length
 cell:∀(j:Nat)(d:D),r[j]? =some d->∃u,us[j]? =some u/\anB w d (vals j) u
 own:∀(j:Nat)(u:Value),us[j]? =some (some u)->∀b,qG u b->Ea w σ n m b
 apart:∀(j j':Nat)(u u':Value)(b:Nat),j≠j'->us[j]? =some (some u)->us[j']? =some (some u')->qG u b->qG u' b->False
structure axg(w:World)(σ:Nat->Nat)(z:Nat)(rs:List (List D))(n m:Nat)(vals:Nat->Value)(U:Kids):Prop where
 cell:∀(i o:Nat)(d:D),cellAt rs i o=some d->∃u,((U[i]?).bind fun r=>r[o]?)=some u/\anB w d (vals (i*z+o)) u
 kid:∀(i o:Nat)(u:Value),Fz U i o=some u->∃es,cellAt rs i o=some (.sl es)
 own:∀(i o:Nat)(u:Value),Fz U i o=some u->∀b,qG u b->Ea w σ n m b
 apart:∀(i o i' o':Nat)(u u':Value)(b:Nat),(i,o)≠(i',o')->Fz U i o=some u->Fz U i' o'=some u'->qG u b->qG u' b->False
end
section
variable {P:Program} {w w':World} {σ σ':Nat->Nat} {S:Store} {β:Hs}
def axh:D->List (List D)
 | .sl es=>es
 |_=>[]
def atx(k:Key)(j:Nat):D->C
 | .sl _=>.xp k j []
 |d=>.d d
def avH(k:Key):Nat->List D->List C
 |_,[]=>[]
 |j,d::ds=>atx k j d::avH k (j+1) ds
def afc:C->C
 | .d x=>.d x
 | .bH es=>.d (.sl es)
 | .bJ _ es=>.d (.sl es)
 | .mE n es=>.d (.ol n es)
 | .om cs=>.om cs
 |_=>.any
def Sd:V->V
 | .c x=>.c (afc x)
 | .agg cs=>.agg (cs.map afc)
 |_=>.any
theorem VE{c:C}{v:Value}(h:jc w σ S β c v)(S':Store)(β':Hs):jc w σ S' β' (afc c) v:=by
 cases c with
 |d x=>exact h
 |bH es=>exact h.1
 |bJ k es=>exact h.1
 |mE n es=>exact h.1
 |om cs=>exact h
 |_=>trivial
theorem Zo{x:V}{v:Value}(h:dR w σ S β x v)(S':Store)(β':Hs):dR w σ S' β' (Sd x) v:=by
 cases x with
 |c x=>exact⟨VE h.1 _ _,h.2⟩
 |agg cs=>
  obtain⟨a,ha,hl,hc⟩:=h;refine⟨a,ha,by rw[ab];exact hl,fun i x hx=> ?_⟩;rw[bE] at hx
  cases hi:cs[i]? with
  |none=>rw[hi] at hx;cases hx
  |some y=>
   rw[hi] at hx;cases hx;obtain⟨u,q1,q2,q3⟩:=hc i y hi;exact⟨u,q1,VE q2 _ _,q3⟩
 |_=>trivial
theorem afd(hl:∀b,b<w.heap.size\/σ b=0)(hg:mF w σ):fC w σ [] [] where
 vH:=hg
 obj:=fun k o h=>by rw[rH] at h;cases h
 apart:=fun k k' o o' h h' b h1=>by rw[rH] at h1;cases h1
 shape:=⟨rfl,fun l fr h=>by simp at h⟩
 live:=hl
theorem acT{β:Hs}{b:Nat}:¬Own [] β b:=fun⟨k,o,h,h1,_⟩=>by rw[rH] at h1;cases h1
def aww(mk:List C->V)(m:Nat):Prop:=∀w σ S β cs v,cs.length=m->dR w σ S β (mk cs) v->∃vs,gN w σ S β cs vs/\∀w' σ' S' β' cs',cs'.length=m->gN w' σ' S' β' cs' vs->dR w' σ' S' β' (mk cs') v
def Eb:Value:=mkT (.slice none 0 0) []
theorem VF(i o:Nat):kid Eb i o=none:=by
 unfold Eb;rw[ao2 (fun i o u h=>by simp[Fz] at h)];simp[Fz]
theorem Sg{b:Nat}:¬qG Eb b:=fun h=>by
 cases h with
 |here h1 h2=>cases h1
 |kid h1 h2=>rw[VF] at h1;cases h1
theorem Zp(σ:Nat->Nat):∀n:Nat,∃m,∀b,b<n->σ b<=m
 |0=>⟨0,fun b h=>gA⟩
 |n+1=>by
  obtain⟨m,hm⟩:=Zp σ n;refine⟨max m (σ n),fun b hb=> ?_⟩;by_cases e:b=n
  ·subst e;omega
  ·have:=hm b gA;omega
end
section
variable {P:Program} {w w':World} {σ σ':Nat->Nat} {S:Store} {β:Hs}
def axr(r:V):Prop:=∀w σ σ2 S β S2 β2 v,(∀b c t fz,w.heap[b]? =some (.cells c t fz)->c.size<σ b->σ2 b=σ b)->dR w σ S β r v->dR w σ2 S2 β2 r v
theorem vG.data{es:List (List D)}{T v:Value}(h:vG w es T)(hv:hdr T=some v)(hσ:∀b c t fz,qG T b->w.heap[b]? =some (.cells c t fz)->c.size<=σ b):dO w σ (.sl es) v:=by
 induction h generalizing v with
 |nil a cap T h hk=>rw[h] at hv;cases hv;exact .nil a cap
 |mk b off cap z es T c t vals kids hh hne hcap hlen hb hfit hc hs hk hx hself hap Es ih=>
  rw[hh] at hv;cases hv;have hpos:0<es.length:=fm.2 hne;have hfl:=iT es z hlen
  have hidx:∀j,j<es.length*z->∃hi:j/z<es.length,j % z<z/\j/z*z+j % z=j:=fun j hj=>by
   have hz:0<z:=by rcases fx z with h|h;·rw[h] at hj;simp at hj
                   ·exact h
   exact⟨(Nat.div_lt_iff_lt_mul hz).2 hj,Nat.mod_lt _ hz,by rw[Nat.mul_comm];exact Nat.div_add_mod j z⟩
  have hcell:∀j d,es.flatten[j]? =some d->∃hi:j/z<es.length,cellAt es (j/z) (j % z)=some d/\j/z*z+j % z=j:=fun j d hd=>by
   have hj:j<es.length*z:=by rw[<-hfl];exact(ap.1 hd).1
   obtain⟨hi,hm,he⟩:=hidx j hj;refine⟨hi,?_,he⟩;have:=flat_get es z hlen (j/z) (j % z) hi hm;rw[he,hd] at this;unfold cellAt;rw[am hi];exact this.symm
  refine .sl b off cap z es (fun j=>vals (j/z) (j % z)) c t (0,0) hcap hlen hb (co hfit (hσ b c t _ (.here hh hpos) hb)) (fun j hj=> ?_) (fun j d hd=> ?_)
  ·obtain⟨hi,hce,he⟩:=hcell j _ (am (by rw[hfl];exact hj));have:=hc _ _ _ hce
   rwa [he] at this
  ·obtain⟨hi,hce,he⟩:=hcell j d hd;rcases hs _ _ _ hce with⟨es',rfl⟩|hsd
   ·obtain⟨k1,k2⟩:=hk _ _ _ hce;exact ih _ _ _ hce k2 fun b' c' t' fz' ho hb'=>hσ b' c' t' fz' (.kid k1 ho) hb'
   ·exact agx hsd
def anC(k:Key)(rs:List (List (List D))):C->C
 | .xp k' r []=>if k'=k then(match rs[r]? with|some es=>.d (.sl es)|none=>.any) else .any
 | .d x=>.d x
 |_=>.any
def axi(k:Key)(rs:List (List (List D))):V->V
 | .c x=>.c (anC k rs x)
 | .agg cs=>.agg (cs.map (anC k rs))
 |_=>.any
end
section
variable {P:Program} {w w':World} {σ σ':Nat->Nat} {S:Store} {β:Hs}
end
end Go.Ab