/-
  SEVERAL TEXTS IN ONE (merged by program): contracts and models, each with its own heading.
-/
import Derived.Test.YtlaaknnkeidlbaaGreatDoorPartDedbF
set_option linter.unusedSimpArgs false
set_option linter.unusedVariables false
namespace Go.Ab
mutual
def qz:D->Nat
 | .sl es=>pz es+1
 | .ol _ _=>0
 | .b _=>0
 | .i _ _=>0
 | .s _=>0
 | .o _=>0
def pE:List D->Nat
 |[]=>0
 |d::ds=>qz d+pE ds
def pz:List (List D)->Nat
 |[]=>0
 |r::rs=>pE r+pz rs
end
mutual
def lS:D->Nat->D
 | .sl es,n=>.ol n (fC es (n+1))
 | .ol m es,_=>.ol m es
 | .b x,_=>.b x
 | .i k x,_=>.i k x
 | .s l,_=>.s l
 | .o v,_=>.o v
def eu:List D->Nat->List D
 |[],_=>[]
 |d::ds,n=>lS d n::eu ds (n+qz d)
def fC:List (List D)->Nat->List (List D)
 |[],_=>[]
 |r::rs,n=>eu r n::fC rs (n+pE r)
end
mutual
def nk:D->Bool
 | .sl es=>iN es
 | .ol _ _=>false
 | .b _=>true
 | .i _ _=>true
 | .s _=>true
 | .o _=>false
def iC:List D->Bool
 |[]=>true
 |d::ds=>nk d&&iC ds
def iN:List (List D)->Bool
 |[]=>true
 |r::rs=>iC r&&iN rs
end
theorem F9:∀a b n,eu (a++b) n=eu a n++eu b (n+pE a)
 |[],b,n=>by simp[eu,pE]
 |d::ds,b,n=>by rw[am,eu,eu,F9 ds b,pE,dl];rfl
theorem qX:∀a b n,fC (a++b) n=fC a n++fC b (n+pz a)
 |[],b,n=>by simp[fC,pz]
 |d::ds,b,n=>by rw[am,fC,fC,qX ds b,pz,dl];rfl
theorem jd:∀r n,(eu r n).length=r.length
 |[],_=>rfl
 |d::ds,n=>by rw[eu,aa,jd ds,aa]
theorem mR:∀rs n,(fC rs n).length=rs.length
 |[],_=>rfl
 |r::rs,n=>by rw[fC,aa,mR rs,aa]
theorem Jk{z:Nat}:∀{rs:List (List D)}{n:Nat},(∀r∈rs,r.length=z)->∀r∈fC rs n,r.length=z
 |[],_,_,r,h=>by rw[fC] at h;cases h
 |a::rs,n,ha,r,h=>by
  rw[fC] at h;rcases cA.1 h with e|h
  ·rw[e,jd];exact ha a (by simp)
  ·exact Jk (fun r hr=>ha r (by simp[hr])) r h
theorem fU:∀a b,iC (a++b)=(iC a&&iC b)
 |[],b=>by simp[iC]
 |d::ds,b=>by rw[am,iC,iC,fU ds b,Bool.and_assoc]
theorem jK{α:Type}{f:α->List D}:∀{xs:List α},(∀x∈xs,iC (f x)=true)->iN (xs.map f)=true
 |[],_=>rfl
 |x::xs,h=>by
  rw[ag,iN,h x (by simp),jK fun y hy=>h y (by simp[hy])];rfl
section
variable {P:Program} {w:World} {σ σ':Nat->Nat} {S:Store} {β:Hs} {N:Nat} {s:St}
mutual
theorem agE:∀(d:D)(n:Nat)(v:Value),bn w σ (lS d n) v->bn w σ d v
 | .sl es,n,v,h=>by
   rw[lS] at h;have hl:=mR es (n+1);have hrec:=adI es (n+1);generalize fC es (n+1)=q at h hl hrec
   cases h with
   |rM n a cap=>
    have:es=[]:=bh (by simpa using hl.symm);subst this;exact .nil a cap
   |ol n b off cap aJ q vals c t hcap hlen hb hσ hfit hc hv hx=>
    obtain⟨r1,r2⟩:=hrec vals hv;rw[hl] at hcap hfit hc ⊢;refine .sl b off cap aJ es vals c t (0,0) hcap (fun e he=> ?_) hb (by omega) hc r2;obtain⟨e',h1,h2⟩:=r1 e he;rw[<-h2];exact hlen e' h1
 | .ol m es,n,v,h=>h
 | .b x,n,v,h=>h
 | .i k x,n,v,h=>h
 | .s l,n,v,h=>h
 | .o u,n,v,h=>h
theorem agF:∀(r:List D)(n:Nat)(vals:Nat->Value),(∀j d,(eu r n)[j]? =some d->bn w σ d (vals j))->∀(j:Nat) d,r[j]? =some d->bn w σ d (vals j)
 |[],n,vals,h,j,d,hd=>by simp at hd
 |a::r,n,vals,h,j,d,hd=>by
  cases j with
  |zero=>
   simp at hd;subst hd;exact agE a n _ (h 0 _ rfl)
  |succ j=>exact agF r (n+qz a) (fun i=>vals (i+1)) (fun i d hi=>h (i+1) d (by rw[eu];exact hi)) j d hd
theorem adI:∀(rs:List (List D))(n:Nat)(vals:Nat->Value),(∀j d,(fC rs n).flatten[j]? =some d->bn w σ d (vals j))->
 (∀e∈rs,∃e'∈fC rs n,e'.length=e.length)/\∀(j:Nat) d,rs.flatten[j]? =some d->bn w σ d (vals j)
 |[],n,vals,h=>⟨fun e he=>(by cases he),fun j d hd=>(by simp at hd)⟩
 |r::rs,n,vals,h=>by
  rw[fC,cn] at h;have h1:=agF r n vals fun j d hd=>h j d (by rw[an (ae.1 hd).1];exact hd);obtain⟨h2,h3⟩:=adI rs (n+pE r) (fun i=>vals (r.length+i)) fun j d hd=>h (r.length+j) d (by rw[ac (by rw[jd];omega),jd,cz];exact hd);refine⟨fun e he=> ?_,fun j d hd=> ?_⟩
  ·rcases cA.1 he with e1|he
   ·subst e1;exact⟨_,by rw[fC];exact ez ..,jd _ _⟩
   ·obtain⟨e',q1,q2⟩:=h2 e he;exact⟨e',by rw[fC];exact fa _ q1,q2⟩
  ·rw[cn] at hd;by_cases hj:j<r.length
   ·rw[an hj] at hd;exact h1 j d hd
   ·rw[ac (by omega)] at hd;have:=h3 (j-r.length) d hd
    rwa [show r.length+(j-r.length)=j by omega] at this
end
theorem Cb{r:List D}{n:Nat}:Less (.agg ((eu r n).map .d)) (.agg (r.map .d)):=by
 rintro w σ S β v ⟨a,ha,hl,hc⟩;rw[ai,jd] at hl;refine⟨a,ha,by rw[ai];exact hl,?_⟩
 have key:∀(r:List D)(n:Nat)(vs:List Value),(∀(j:Nat)(x:C),((eu r n).map C.d)[j]? =some x->∃v:Value,vs[j]? =some v/\dS w σ S β x v/\v.oneCell'=true)->
  ∀(j:Nat)(x:C),(r.map C.d)[j]? =some x->∃v:Value,vs[j]? =some v/\dS w σ S β x v/\v.oneCell'=true:=by
  intro r
  induction r with
  |nil=>intro n vs h j x hx;simp at hx
  |cons d ds ih=>
   intro n vs h j x hx
   cases j with
   |zero=>
    simp at hx;subst hx;obtain⟨v,h1,h2,h3⟩:=h 0 (.d (lS d n)) rfl;exact⟨v,h1,agE d n v h2,h3⟩
   |succ j=>
    have:=ih (n+qz d) vs.tail (fun i y hy=>by
     obtain⟨v,h1,h2⟩:=h (i+1) y (by rw[eu,ag];exact hy);refine⟨v,?_,h2⟩
     cases vs with
     |nil=>simp at h1
     |cons a b=>exact h1) j x hx
    obtain⟨v,h1,h2⟩:=this;refine⟨v,?_,h2⟩
    cases vs with
    |nil=>simp at h1
    |cons a b=>exact h1
 exact key r n _ hc
theorem LY{r:List D}{n:Nat}{w:World}{σ:Nat->Nat}{S:Store}{β:Hs}{vs:List Value}(h:dF w σ S β ((eu r n).map .d) vs):dF w σ S β (r.map .d) vs:=by
 obtain⟨a,ha,hc⟩:=Cb w σ S β (.agg vs.toArray) ⟨vs.toArray,rfl,by simpa using h⟩;cases ha;simpa using hc
inductive pW:List V->List V->Prop
 |nil:pW [] []
 |cons {x y:V} {xs ys:List V}:Less x y->pW xs ys->pW (x::xs) (y::ys)
theorem pW.length:∀{xs ys:List V},pW xs ys->xs.length=ys.length
 |_,_,.nil=>rfl
 |_,_,.cons _ h=>by rw[aa,aa,pW.length h]
theorem pW.at:∀{xs ys:List V},pW xs ys->∀(j:Nat)(x y:V),xs[j]? =some x->ys[j]? =some y->Less x y
 |_,_,.nil,j,x,y,h,_=>by simp at h
 |_,_,.cons a h,0,x,y,h1,h2=>by simp at h1 h2;subst h1;subst h2;exact a
 |_,_,.cons a h,j+1,x,y,h1,h2=>pW.at h j x y (by simpa using h1) (by simpa using h2)
theorem aF.args{f:FuncId}{args args':List V}{r:V}(h:aF P f args' r)(hl:pW args args'):aF P f args r:=fun S=>(h S).weaken hl.length fun j x y hx hy w σ β v hr=>hl.at j x y hx hy w σ S β v hr
theorem wO{dr:Option Nat}{f:FuncId}{args args':List V}{dst:Option Nat}{K:St->Prop}{r:V}(h:aF P f args' r)(hl:pW (args.map V.qC) args')(hK:K (s.put dst r)):lI P dr f args s dst K:=aA (h.args hl) hK
def abZ(row:Bool)(j n:Nat)(es:List (List D))(tm:List (Nat×V)):List (Nat×V):=tm.map fun x=>(x.1,x.2.gI (C.lab row j n es))
theorem Y3{row:Bool}{j n:Nat}{es:List (List D)}{tm:List (Nat×V)}{t:Nat}:look (abZ row j n es tm) t=(look tm t).gI (C.lab row j n es):=vw (f:=V.gI (C.lab row j n es)) rfl tm t
def VA(j n:Nat)(tm:List (Nat×V))(own:List Obj)(Ω:Store):Option Obj->St
 |some (.bU _ es)=>⟨abZ true j n es tm,(own.map (Obj.gI (C.lab true j n es))).set j .dead::Ω⟩
 |some (.dY m _ es)=>⟨abZ false j m es tm,(own.map (Obj.gI (C.lab false j m es))).set j .dead::Ω⟩
 |_=>⟨tm,own::Ω⟩
def VB(j n:Nat)(s:St):St:=
 match s.st with
 |own::Ω=>VA j n s.tm own Ω (own[j]?)
 |[]=>s
def Jl:Nat->Nat->St->St
 |0,_,s=>s
 |k+1,n,s=>Jl k n (VB k n s)
def Bc(n:Nat)(s:St):St:=
 match s.st with
 |own::_=>Jl own.length n s
 |[]=>s
theorem R7(j n:Nat)(s:St):fQ N s (VB j n s):=by
 obtain⟨tm,st⟩:=s
 cases st with
 |nil=>exact fQ.refl _ _
 |cons own Ω=>
  show fQ N ⟨tm,own::Ω⟩ (VA j n tm own Ω (own[j]?))
  cases ho:own[j]? with
  |none=>exact fQ.refl _ _
  |some o=>
   cases o with
   |bU z es=>exact fun a w σ β hR=>Tf j n z es true ho hR
   |dY m z es=>exact fun a w σ β hR=>Tf j m z es false ho hR
   |_=>exact fQ.refl _ _
theorem Ga:∀(k n:Nat)(s:St),fQ N s (Jl k n s)
 |0,n,s=>fQ.refl _ _
 |k+1,n,s=>(R7 k n s).trans (Ga k n _)
theorem D6(n:Nat)(s:St):fQ N s (Bc n s):=by
 unfold Bc;split
 ·exact Ga _ _ _
 ·exact fQ.refl _ _
theorem ab0{j n:Nat}{tm:List (Nat×V)}{own:List Obj}{Ω:Store}:VB j n ⟨tm,own::Ω⟩=VA j n tm own Ω (own[j]?):=rfl
theorem Y4{n:Nat}{tm:List (Nat×V)}{own:List Obj}{Ω:Store}:Bc n ⟨tm,own::Ω⟩=Jl own.length n ⟨tm,own::Ω⟩:=rfl
def VD(P:Program)(n:Nat)(rs:List ResultVar)(post:V->Store->Prop)(e:Exit)(s:St):Prop:=aav P rs post e (Bc n s)
theorem ab1{n:Nat}{rs:List ResultVar}{post:V->Store->Prop}:VD P n rs post .ret s=O3 P rs post (Bc n s):=rfl
theorem R8{n:Nat}{rs:List ResultVar}{post:V->Store->Prop}:VD P n rs post .normal s=O3 P rs post (Bc n s):=rfl
theorem oU(n:Nat){f:FuncId}{fn:Func}{c:Code}{args:List V}{post:V->Store->Prop}{rs:List ResultVar}(dZ:P.follows .mixedOrders=true)(hf:P.funcs[f]? =some fn)(hN:fn.ntmps=N)
 (hb:fn.body=some c) (hn:(fn.name== "runtime.NumGoroutine")=false) (hr:fn.results.toList=rs) (hl:Nat.ble args.length N=true) (hok:codeOk N c=true)
 (h:CW P N c (VD P n rs post) ⟨jR (args.map (V.up 1)) 0,[.seed n]::S⟩):bL P f args S post:=by
 subst hN;subst hr;exact vM hf hb hn (cX hl) (KA n (II (D6 n) (iV dZ c _ _ hok h)))
theorem ab2{row:Bool}{j n l i:Nat}{es es':List (List D)}:C.lab row j n es (.bM (1+l,i) es')=.bM (1+l,i) es':=by rw[dE];rfl
theorem ab3{row:Bool}{j n i:Nat}{es es':List (List D)}:C.lab row j n es (.bM (0,i) es')=if i=j/\row=false/\es'.length=es.length then .d (.ol n es) else .bM (0,i) es':=rfl
theorem ab4{row:Bool}{j n l i:Nat}{es:List (List D)}:C.lab row j n es (.fD (1+l,i))=.fD (1+l,i):=by rw[dE];rfl
theorem ab5{row:Bool}{j n i:Nat}{es:List (List D)}:C.lab row j n es (.fD (0,i))=if i=j/\row=true then .d (.ol n es) else .fD (0,i):=rfl
theorem aiy{row:Bool}{j n:Nat}{es:List (List D)}{x:D}:C.lab row j n es (.d x)=.d x:=rfl
theorem aeX{row:Bool}{j n:Nat}{es:List (List D)}:C.lab row j n es .any=.any:=rfl
theorem aeY{row:Bool}{j n:Nat}{es es':List (List D)}:C.lab row j n es (.bB es')=.bB es':=rfl
theorem aeZ{row:Bool}{j n m:Nat}{es es':List (List D)}:C.lab row j n es (.iT m es')=.iT m es':=rfl
theorem ae0{row:Bool}{j n off:Nat}{es:List (List D)}{k:Key}:C.lab row j n es (.ptr k off)=.ptr k off:=rfl
theorem agG{row:Bool}{j n f:Nat}{es:List (List D)}{caps:List (Key×Nat)}:C.lab row j n es (.fn f caps)=.fn f caps:=rfl
theorem ab6{row:Bool}{j n:Nat}{es:List (List D)}{cs:List D}:C.lab row j n es (.jI cs)=.jI cs:=rfl
end
attribute [go_sem ↓] ab1 R8 Y4
attribute [go_sem] Jl ab0 VA Y3 V.gI Obj.gI ab2 ab3 ab4 ab5 aiy aeX aeY aeZ ae0 agG ab6
section
variable {P:Program} {w w':World} {σ σ':Nat->Nat} {S:Store} {β:Hs}
def oG(w:World)(σ:Nat->Nat)(lo hi b:Nat):Prop:=∃c t fz m,w.heap[b]? =some (.cells c t fz)/\σ b=c.size+1+m/\lo<=m/\m<hi
theorem oG.mono{lo hi lo' hi' b:Nat}(h:oG w σ lo hi b)(h1:lo'<=lo)(h2:hi<=hi'):oG w σ lo' hi' b:=by
 obtain⟨c,t,fz,m,a1,a2,a3,a4⟩:=h;exact⟨c,t,fz,m,a1,a2,by omega,by omega⟩
theorem oG.apart{lo hi lo' hi' b:Nat}(h:oG w σ lo hi b)(h':oG w σ lo' hi' b)(ho:hi<=lo'):False:=by
 obtain⟨c,t,fz,m,a1,a2,a3,a4⟩:=h;obtain⟨c',t',N9,m',b1,b2,b3,b4⟩:=h';rw[a1] at b1;cases b1;omega
abbrev Kids:=List (List (Option Value))
def kG(rows:Kids)(i o:Nat):Option Value:=((rows[i]?).bind fun r=>r[o]?).bind id
def adJ(rows:Kids):Array Value:=(rows.map fun r=>Value.tuple (r.map fun u=>u.getD (.bool false)).toArray).toArray
def mkT(v:Value)(rows:Kids):Value:=.tuple #[v,.tuple (adJ rows)]
theorem Tp{v:Value}{rows:Kids}:hdr (mkT v rows)=some v:=rfl
def IsT(v:Value):Prop:=∃a,v=.tuple a
theorem KR{v:Value}{rows:Kids}(h:∀i o u,kG rows i o=some u->IsT u)(i o:Nat):kid (mkT v rows) i o=kG rows i o:=by
 have h':=h i o
 unfold kid mkT adJ kG at *
 simp only[cV,dt,eJ,be]
 cases hr:rows[i]? with
 |none=>rfl
 |some r=>
  rw[hr] at h';simp only[cQ,cV,be]
  cases hu:r[o]? with
  |none=>simp[hu]
  |some u=>
   simp only[dc,hu,id] at h'
   cases u with
   |none=>simp[hu]
   |some u=>
    obtain⟨a,rfl⟩:=h' u rfl;simp[hu]
def Nl(w:World)(d:D)(v:Value)(u:Option Value):Prop:=
 match d with
 | .sl es=>∃T,u=some T/\IsT T/\hdr T=some v/\nH w es T
 |d=>u=none/\SD d v
theorem PG{z:Nat}:∀{rs:List (List D)}{n:Nat},(∀r∈fC rs n,r.length=z)->∀r∈rs,r.length=z
 |[],_,_,r,h=>by cases h
 |a::rs,n,ha,r,h=>by
  rw[fC] at ha;rcases cA.1 h with e|h
  ·subst e;rw[<-jd r n];exact ha _ (by simp)
  ·exact PG (n:=n+pE a) (fun r hr=>ha r (by simp[hr])) r h
structure ajP(w:World)(σ:Nat->Nat)(r:List D)(n m:Nat)(vals:Nat->Value)(us:List (Option Value)):Prop where
 len:us.length=r.length
 cell:∀(j:Nat)(d:D),r[j]? =some d->∃u,us[j]? =some u/\Nl w d (vals j) u
 own:∀(j:Nat)(u:Value),us[j]? =some (some u)->∀b,jS u b->oG w σ n m b
 apart:∀(j j':Nat)(u u':Value)(b:Nat),j≠j'->us[j]? =some (some u)->us[j']? =some (some u')->jS u b->jS u' b->False
structure aiz(w:World)(σ:Nat->Nat)(z:Nat)(rs:List (List D))(n m:Nat)(vals:Nat->Value)(U:Kids):Prop where
 cell:∀(i o:Nat)(d:D),cellAt rs i o=some d->∃u,((U[i]?).bind fun r=>r[o]?)=some u/\Nl w d (vals (i*z+o)) u
 kid:∀(i o:Nat)(u:Value),kG U i o=some u->∃es,cellAt rs i o=some (.sl es)
 own:∀(i o:Nat)(u:Value),kG U i o=some u->∀b,jS u b->oG w σ n m b
 apart:∀(i o i' o':Nat)(u u':Value)(b:Nat),(i,o)≠(i',o')->kG U i o=some u->kG U i' o'=some u'->jS u b->jS u' b->False
theorem uL{us:List (Option Value)}{U:Kids}{o:Nat}{u:Value}:kG (us::U) 0 o=some u<->us[o]? =some (some u):=by
 show(us[o]?).bind id=some u<->_
 cases us[o]? with
 |none=>simp
 |some x=>simp
mutual
theorem aiA:∀(d:D)(n:Nat)(v:Value),nk d=true->bn w σ (lS d n) v->∃u,Nl w d v u/\∀T,u=some T->∀b,jS T b->oG w σ n (n+qz d) b
 | .sl es,n,v,hp,h=>by
   rw[lS] at h;have hl:=mR es (n+1);have hrec:=Y5 es (n+1);have hrow:=fun z=>PG (z:=z) (rs:=es) (n:=n+1);generalize fC es (n+1)=q at h hl hrec hrow
   have hempty:∀a cap,es=[]->v=.slice a 0 cap->∃u,Nl w (.sl es) v u/\∀T,u=some T->∀b,jS T b->oG w σ n (n+qz (.sl es)) b:=by
    rintro a cap rfl rfl
    have hk:∀i o,kid (mkT (.slice a 0 cap) []) i o=none:=fun i o=>by rw[KR (fun i o u h=>by simp[kG] at h)];simp[kG]
    refine⟨some (mkT (.slice a 0 cap) []),⟨_,rfl,⟨_,rfl⟩,rfl,.nil a cap _ rfl hk⟩,fun T hT b hb=> ?_⟩;cases hT;exfalso
    cases hb with
    |here h1 h2=>rw[Tp] at h1;cases h1;omega
    |kid h1 h2=>rw[hk] at h1;cases h1
   cases h with
   |rM n a cap=>exact hempty a cap (bh (by simpa using hl.symm)) rfl
   |ol n b off cap z q vals c t hcap hlen hb hσ hfit hc hv hx=>
    by_cases hne:es=[]
    ·subst hne
     have hq0:q.length=0:=by simpa using hl
     exact hempty _ _ rfl (by rw[hq0])
    rw[hl] at hcap hfit hc ⊢;obtain⟨U,hU⟩:=hrec z vals (hrow z hlen) (by simpa [nk] using hp) hv;have hrl:=hrow z hlen
    have hT:∀i o u,kG U i o=some u->IsT u:=fun i o u hu=>by
     obtain⟨es',he⟩:=hU.kid i o u hu;obtain⟨u',h1,h2⟩:=hU.cell i o _ he;obtain⟨T,h3,h4,_⟩:=h2;unfold kG at hu;rw[h1,h3] at hu;cases hu;exact h4
    have qp:∀i o,kid (mkT (.slice (some ⟨b,off,none⟩) es.length cap) U) i o=kG U i o:=KR hT
    have hcell:∀i o es',cellAt es i o=some (.sl es')->∃T,kG U i o=some T/\hdr T=some (vals (i*z+o))/\nH w es' T:=fun i o es' he=>by
     obtain⟨u',h1,T,h3,h4,h5,h6⟩:=hU.cell i o _ he;refine⟨T,?_,h5,h6⟩;unfold kG;rw[h1,h3];rfl
    have hself:∀x,oG w σ (n+1) (n+1+pz es) x->x≠b:=by
     rintro x ⟨c',t',N9,m,a1,a2,a3,a4⟩ rfl;rw[hb] at a1;cases a1;omega
    refine⟨some (mkT (.slice (some ⟨b,off,none⟩) es.length cap) U),⟨_,rfl,⟨_,rfl⟩,rfl,?_⟩,fun T hT' x hx=> ?_⟩
    ·refine .mk b off cap z es _ c t (fun i o=>vals (i*z+o)) (fun i o=>(kG U i o).getD undef) rfl hne hcap hrl hb hfit (fun i o d hd=> ?_) (fun i o d hd=> ?_) (fun i o es' he=> ?_) (fun i o es' he=> ?_) (fun i o u hu hb'=> ?_) (fun i o i' o' u u' x hio hu hu' h1 h2=> ?_) (fun i o u hu=> ?_)
     ·obtain⟨hi,ho⟩:=u6 hd;rw[hrl _ (ap hi)] at ho;refine hc _ ?_;have:(i+1)*z<=es.length*z:=bx _ hi;rw[cw,Nat.one_mul] at this;omega
     ·obtain⟨u,h1,h2⟩:=hU.cell i o d hd
      cases d<;>first|exact .inl ⟨_,rfl⟩|exact .inr h2.2
     ·obtain⟨T,h1,h2,h3⟩:=hcell i o es' he;rw[qp,h1];exact⟨rfl,h2⟩
     ·obtain⟨T,h1,h2,h3⟩:=hcell i o es' he;rw[h1];exact h3
     ·rw[qp] at hu;exact hself b (hU.own i o u hu b hb') rfl
     ·rw[qp] at hu hu';exact hU.apart i o i' o' u u' x hio hu hu' h1 h2
     ·rw[qp] at hu;exact hU.kid i o u hu
    ·cases hT'
     cases hx with
     |here h1 h2=>rw[Tp] at h1;cases h1;exact⟨c,t,(0,0),n,hb,hσ,ax _,by rw[qz];omega⟩
     |kid h1 h2=>
      rw[qp] at h1;exact(hU.own _ _ _ h1 _ h2).mono (by omega) (by rw[qz];omega)
 | .ol m es,n,v,hp,h=>by simp[nk] at hp
 | .b x,n,v,hp,h=>by rw[lS] at h;cases h;exact⟨none,⟨rfl,rfl⟩,fun T h=>by cases h⟩
 | .i k x,n,v,hp,h=>by rw[lS] at h;cases h;exact⟨none,⟨rfl,rfl⟩,fun T h=>by cases h⟩
 | .s l,n,v,hp,h=>by rw[lS] at h;cases h;exact⟨none,⟨rfl,rfl⟩,fun T h=>by cases h⟩
 | .o u,n,v,hp,h=>by simp[nk] at hp
theorem VE:∀(r:List D)(n:Nat)(vals:Nat->Value),iC r=true->(∀(j:Nat)(d:D),(eu r n)[j]? =some d->bn w σ d (vals j))->∃us,ajP w σ r n (n+pE r) vals us
 |[],n,vals,hp,h=>⟨[],rfl,fun j d h=>by simp at h,fun j u h=>by simp at h,fun j j' u u' b _ h=>by simp at h⟩
 |d::r,n,vals,hp,h=>by
  rw[iC,af] at hp;rw[eu] at h;obtain⟨u,h1,h2⟩:=aiA d n (vals 0) hp.1 (h 0 _ rfl);obtain⟨us,uV⟩:=VE r (n+qz d) (fun j=>vals (j+1)) hp.2 fun j x hx=>h (j+1) x hx;rw[pE];have hown:∀(j:Nat)(T:Value),us[j]? =some (some T)->∀b,jS T b->oG w σ (n+qz d) (n+qz d+pE r) b:=uV.own;refine⟨u::us,by rw[aa,aa,uV.len],fun j x hx=> ?_,fun j T hT b hb=> ?_,fun j j' T T' b hj hT hT' hb hb'=> ?_⟩
  ·cases j with
   |zero=>simp at hx;subst hx;exact⟨u,rfl,h1⟩
   |succ j=>exact uV.cell j x hx
  ·cases j with
   |zero=>simp at hT;exact(h2 T hT b hb).mono (ax _) (by omega)
   |succ j=>exact(hown j T hT b hb).mono (by omega) (by omega)
  ·cases j with
   |zero=>
    cases j' with
    |zero=>exact hj rfl
    |succ j'=>simp at hT;exact(h2 T hT b hb).apart (hown j' T' hT' b hb') (ax _)
   |succ j=>
    cases j' with
    |zero=>simp at hT';exact(h2 T' hT' b hb').apart (hown j T hT b hb) (ax _)
    |succ j'=>exact uV.apart j j' T T' b (by omega) hT hT' hb hb'
theorem Y5:∀(rs:List (List D))(n z:Nat)(vals:Nat->Value),(∀r∈rs,r.length=z)->iN rs=true->(∀(j:Nat)(d:D),(fC rs n).flatten[j]? =some d->bn w σ d (vals j))->∃U,aiz w σ z rs n (n+pz rs) vals U
 |[],n,z,vals,hz,hp,h=>⟨[],fun i o d h=>by simp[cellAt] at h,fun i o u h=>by simp[kG] at h,fun i o u h=>by simp[kG] at h,fun i o i' o' u u' b _ h=>by simp[kG] at h⟩
 |r::rs,n,z,vals,hz,hp,h=>by
  rw[iN,af] at hp;rw[fC,cn] at h;have hrz:r.length=z:=hz r (by simp);obtain⟨us,uV⟩:=VE r n vals hp.1 fun j d hd=>h j d (by rw[an (ae.1 hd).1];exact hd)
  obtain⟨U,hU⟩:=Y5 rs (n+pE r) z (fun j=>vals (z+j)) (fun r hr=>hz r (by simp[hr])) hp.2 fun j d hd=>h (z+j) d (by
   rw[ac (by rw[jd];omega),jd,hrz,cz];exact hd)
  rw[pz];have hown:∀(i o:Nat)(T:Value),kG U i o=some T->∀b,jS T b->oG w σ (n+pE r) (n+pE r+pz rs) b:=hU.own;refine⟨us::U,fun i o d hd=> ?_,fun i o u hu=> ?_,fun i o T hT b hb=> ?_,fun i o i' o' T T' b hio hT hT' hb hb'=> ?_⟩
  ·cases i with
   |zero=>
    obtain⟨u,h1,h2⟩:=uV.cell o d hd;exact⟨u,h1,by rw[Nat.zero_mul,cL];exact h2⟩
   |succ i=>
    obtain⟨u,h1,h2⟩:=hU.cell i o d hd;exact⟨u,h1,by rw[show(i+1)*z+o=z+(i*z+o) by rw[cw];omega];exact h2⟩
  ·cases i with
   |zero=>
    rw[uL] at hu
    have ho:o<r.length:=by rw[<-uV.len];exact(ae.1 hu).1
    obtain⟨u',h1,h2⟩:=uV.cell o r[o] (al ho);rw[hu] at h1;cases h1;have hc:cellAt (r::rs) 0 o=some r[o]:=al ho;rw[hc];generalize r[o]=d at h2
    cases d<;>first|exact⟨_,rfl⟩|(cases h2.1)
   |succ i=>exact hU.kid i o u hu
  ·cases i with
   |zero=>rw[uL] at hT;exact(uV.own o T hT b hb).mono (ax _) (by omega)
   |succ i=>exact(hown i o T hT b hb).mono (by omega) (by omega)
  ·cases i with
   |zero=>
    rw[uL] at hT
    cases i' with
    |zero=>rw[uL] at hT';exact uV.apart o o' T T' b (fun e=>hio (by rw[e])) hT hT' hb hb'
    |succ i'=>exact(uV.own o T hT b hb).apart (hown i' o' T' hT' b hb') (ax _)
   |succ i=>
    cases i' with
    |zero=>rw[uL] at hT';exact(uV.own o' T' hT' b hb').apart (hown i o T hT b hb) (ax _)
    |succ i'=>exact hU.apart i o i' o' T T' b (fun e=>hio (by cases e;rfl)) hT hT' hb hb'
end
end
section
variable {P:Program} {w w':World} {σ σ':Nat->Nat} {S:Store} {β:Hs}
def Jm:D->List (List D)
 | .sl es=>es
 |_=>[]
def adL(k:Key)(j:Nat):D->C
 | .sl _=>.xp k j []
 |d=>.d d
def GK(k:Key):Nat->List D->List C
 |_,[]=>[]
 |j,d::ds=>adL k j d::GK k (j+1) ds
theorem Aq{k:Key}:∀(j:Nat)(r:List D),(GK k j r).length=r.length
 |_,[]=>rfl
 |j,d::ds=>by rw[GK,aa,Aq,aa]
theorem Tq{k:Key}:∀(r:List D)(j i:Nat),(GK k j r)[i]? =(r[i]?).map (adL k (j+i))
 |[],j,i=>by simp[GK]
 |d::ds,j,0=>rfl
 |d::ds,j,i+1=>by
  rw[GK,dt,dt,Tq ds (j+1) i,show j+1+i=j+(i+1) by omega]
def VF:C->C
 | .d x=>.d x
 | .bB es=>.d (.sl es)
 | .bM _ es=>.d (.sl es)
 | .iT n es=>.d (.ol n es)
 | .jI cs=>.jI cs
 |_=>.any
def Jo:V->V
 | .c x=>.c (VF x)
 | .agg cs=>.agg (cs.map VF)
 |_=>.any
theorem LZ{c:C}{v:Value}(h:dS w σ S β c v)(S':Store)(β':Hs):dS w σ S' β' (VF c) v:=by
 cases c with
 |d x=>exact h
 |bB es=>exact h.1
 |bM k es=>exact h.1
 |iT n es=>exact h.1
 |jI cs=>exact h
 |_=>trivial
theorem PI{x:V}{v:Value}(h:bJ w σ S β x v)(S':Store)(β':Hs):bJ w σ S' β' (Jo x) v:=by
 cases x with
 |c x=>exact⟨LZ h.1 _ _,h.2⟩
 |agg cs=>
  obtain⟨a,ha,hl,hc⟩:=h;refine⟨a,ha,by rw[ai];exact hl,fun i x hx=> ?_⟩;rw[be] at hx
  cases hi:cs[i]? with
  |none=>rw[hi] at hx;cases hx
  |some y=>
   rw[hi] at hx;cases hx;obtain⟨u,q1,q2,q3⟩:=hc i y hi;exact⟨u,q1,LZ q2 _ _,q3⟩
 |_=>trivial
theorem Jp(hl:∀b,b<w.heap.size\/σ b=0)(hg:iU w σ):cZ w σ [] [] where
 lX:=hg
 obj:=fun k o h=>by rw[jV] at h;cases h
 apart:=fun k k' o o' h h' b h1=>by rw[jV] at h1;cases h1
 shape:=⟨rfl,fun l fr h=>by simp at h⟩
 live:=hl
theorem Fv{β:Hs}{b:Nat}:¬Own [] β b:=fun⟨k,o,h,h1,_⟩=>by rw[jV] at h1;cases h1
def agI(mk:List C->V)(m:Nat):Prop:=∀w σ S β cs v,cs.length=m->bJ w σ S β (mk cs) v->∃vs,dF w σ S β cs vs/\∀w' σ' S' β' cs',cs'.length=m->dF w' σ' S' β' cs' vs->bJ w' σ' S' β' (mk cs') v
def pX:Value:=mkT (.slice none 0 0) []
theorem D7(i o:Nat):kid pX i o=none:=by
 unfold pX;rw[KR (fun i o u h=>by simp[kG] at h)];simp[kG]
theorem uM{b:Nat}:¬jS pX b:=fun h=>by
 cases h with
 |here h1 h2=>cases h1
 |kid h1 h2=>rw[D7] at h1;cases h1
theorem PK(σ:Nat->Nat):∀n:Nat,∃m,∀b,b<n->σ b<=m
 |0=>⟨0,fun b h=>by omega⟩
 |n+1=>by
  obtain⟨m,hm⟩:=PK σ n;refine⟨max m (σ n),fun b hb=> ?_⟩;by_cases e:b=n
  ·subst e;omega
  ·have:=hm b (by omega);omega
open Classical in
theorem bL.own{f:FuncId}{args:List V}{bq:List Obj}{Ω:Store}{mk:List C->V}{r:List D}(hm:agI mk r.length)(hp:iC r=true)
 (h:∀n,aF P f (args.map Jo) (mk ((eu r n).map .d))):
 bL P f args (bq::Ω) (fun r' S'=>r'=mk (GK (0,bq.length) 0 r)/\S'=(bq++[.xf (r.map Jm)])::Ω):=by
 refine⟨(h 0 []).1,fun w σ β vs hS hargs=> ?_⟩;obtain⟨n,hn⟩:=PK σ w.heap.size
 have Y6:jX w σ [] [] (args.map Jo) vs:=by
  refine⟨by rw[ai];exact hargs.1,fun j x hx=> ?_⟩;rw[be] at hx
  cases ha:args[j]? with
  |none=>rw[ha] at hx;cases hx
  |some y=>
   rw[ha] at hx;cases hx;obtain⟨v,h1,h2⟩:=hargs.2 j y ha;exact⟨v,h1,PI h2 _ _⟩
 refine((h n []).2 w σ [] vs (Jp hS.live hS.lX) Y6).mono fun e w' ⟨v,r',S',σ',β',he,hS',hk,hst,hv,hr',hS2⟩=> ?_;subst hr';subst hS2;obtain⟨us0,hcs,hback⟩:=hm w' σ' _ β' _ v (by rw[ai,jd]) hv
 have ajQ:us0.length=r.length:=by rw[<-hcs.1,ai,jd]
 obtain⟨us,uV⟩:=VE r n (fun j=>us0.getD j undef) hp (fun j d hd=>by
  obtain⟨u,h1,h2,_⟩:=hcs.2 j (.d d) (by rw[be,hd];rfl);simp only[cr,h1,cN]
  exact h2)
 let h0:Value:=.tuple (us.map fun u=>u.getD pX).toArray
 have hroot:∀j,qH h0 j=(us[j]?).map fun u=>u.getD pX:=fun j=>by simp[h0,qH]
 have hfresh:∀b,kS h0 b->w.heap.size<=b:=by
  rintro b ⟨j,T,h1,h2⟩;rw[hroot] at h1
  cases hu:us[j]? with
  |none=>rw[hu] at h1;cases h1
  |some u=>
   rw[hu] at h1;simp only[cQ,cb] at h1
   cases u with
   |none=>subst h1;exact absurd h2 uM
   |some u=>
    simp at h1;subst h1;obtain⟨c,t,fz,m,a1,a2,a3,a4⟩:=uV.own j u hu b h2;refine Nat.le_of_not_lt fun hlt=> ?_;have h1:=(hst.far b hlt Fv).2;have h2:=hn b hlt;omega
 let σ2:Nat->Nat:=fun b=>if kS h0 b then 0 else σ' b
 have hg:Grow w σ w' σ2:=⟨hst.size,hst.os,hst.output,fun b hb=>by
  obtain⟨h1,h2⟩:=hst.far b hb Fv
  exact⟨h1,(if_neg fun hx=>by have:=hfresh b hx;omega).trans h2⟩,fun b=>by
  rcases hS'.live b with hb|hb
  ·exact .inl hb
  ·right;show(if kS h0 b then 0 else σ' b)=0;rw[hb];split<;>rfl⟩
 cases β with
 |nil=>have:=hS.shape.1;simp at this
 |cons bo bΩ=>
 have hlen:bo.length=bq.length:=by
  obtain⟨gr,g1,g2⟩:=hS.shape.2 0 bq rfl;simp at g1;rw[g1];exact g2
 obtain⟨hS3,hk3,ajR⟩:=hS.push (o:=.xf (r.map Jm)) (h:=h0) hg hlen (by
  refine⟨fun j es hj=> ?_,fun j T hT=> ?_,fun b hb=>if_pos hb,fun j j' T T' x hjj hT hT' hx hx'=> ?_⟩
  ·rw[be] at hj
   cases hd:r[j]? with
   |none=>rw[hd] at hj;cases hj
   |some d=>
    rw[hd] at hj;simp only[cQ,cb] at hj;subst hj;obtain⟨u,h1,h2⟩:=uV.cell j d hd;rw[hroot,h1]
    have hsc:(∀es,d≠ .sl es)->∃T,Option.map (fun u=>Option.getD u pX) (some u)=some T/\nH w' (Jm d) T:=fun hne=>by
     have hu:u=none:=by cases d<;>first|exact absurd rfl (hne _)|exact h2.1
     have hr0:Jm d=[]:=by cases d<;>first|exact absurd rfl (hne _)|rfl
     subst hu;rw[hr0];exact⟨pX,rfl,.nil none 0 _ rfl D7⟩
    cases d with
    |sl es=>obtain⟨T,rfl,_,_,h6⟩:=h2;exact⟨T,rfl,h6⟩
    |_=>exact hsc (fun es e=>by cases e)
  ·rw[ai];rw[hroot] at hT
   cases hu:us[j]? with
   |none=>rw[hu] at hT;cases hT
   |some u=>rw[<-uV.len];exact(ae.1 hu).1
  ·rw[hroot] at hT hT'
   cases hu:us[j]? with
   |none=>rw[hu] at hT;cases hT
   |some u=>
    cases hu':us[j']? with
    |none=>rw[hu'] at hT';cases hT'
    |some u'=>
     rw[hu] at hT;rw[hu'] at hT';simp only[cQ,cb] at hT hT'
     cases u with
     |none=>subst hT;exact uM hx
     |some u=>
      cases u' with
      |none=>subst hT';exact uM hx'
      |some u'=>simp at hT hT';subst hT;subst hT';exact uV.apart j j' u u' x hjj hu hu' hx hx') (fun b hb=>hfresh b hb)
 refine⟨v,_,_,σ2,(bo++[h0])::bΩ,he,hS3,hk3,ajR,?_,rfl,rfl⟩;refine hback _ _ _ _ _ (by rw[Aq]) ⟨by rw[Aq,ajQ],fun j x hx=> ?_⟩;rw[Tq,cL] at hx
 cases hd:r[j]? with
 |none=>rw[hd] at hx;cases hx
 |some d=>
  rw[hd] at hx;simp only[cQ,cb] at hx;obtain⟨u,h1,h2⟩:=uV.cell j d hd
  have hjl:j<(eu r n).length:=by rw[jd];exact(ae.1 hd).1
  obtain⟨v0,h3,_,h4⟩:=hcs.2 j (.d (eu r n)[j]) (by rw[be,al hjl];rfl)
  have hv0:us0.getD j undef=v0:=by rw[cr,h3];rfl
  simp only[hv0] at h2;refine⟨v0,h3,?_,h4⟩
  have hsc:(∀es,d≠ .sl es)->dS w' σ2 ((bq++[.xf (r.map Jm)])::Ω) ((bo++[h0])::bΩ) (.d d) v0:=fun hne=>by
   have:SD d v0:=by cases d<;>first|exact absurd rfl (hne _)|exact h2.2
   exact NK this
  cases d with
  |sl es=>
   subst hx;obtain⟨T,rfl,_,h5,_⟩:=h2;refine⟨_,bg _ _ _,fun rs _=>⟨h0,by rw[<-hlen,bg],?_⟩⟩;unfold Bv;rw[hroot,h1];exact h5
  |_=>subst hx;exact hsc (fun es e=>by cases e)
end
section
variable {P:Program} {w w':World} {σ σ':Nat->Nat} {S:Store} {β:Hs}
def ajS(r:V):Prop:=∀w σ σ2 S β S2 β2 v,(∀b c t fz,w.heap[b]? =some (.cells c t fz)->c.size<σ b->σ2 b=σ b)->bJ w σ S β r v->bJ w σ2 S2 β2 r v
mutual
theorem ajT{σ2:Nat->Nat}(hs:∀b c t fz,w.heap[b]? =some (.cells c t fz)->c.size<σ b->σ2 b=σ b):∀(d:D)(n:Nat)(v:Value),nk d=true->bn w σ (lS d n) v->bn w σ2 (lS d n) v
 | .sl es,n,v,hp,h=>by
   rw[lS] at h ⊢;have hrec:=adM hs es (n+1);generalize fC es (n+1)=q at h hrec ⊢
   cases h with
   |rM n a cap=>exact .rM n a cap
   |ol n b off cap z q vals c t hcap hlen hb hσ hfit hc hv hx=>exact .ol n b off cap z q vals c t hcap hlen hb ((hs b c t _ hb (by omega)).trans hσ) hfit hc (hrec vals (by simpa [nk] using hp) hv) hx
 | .ol m es,n,v,hp,h=>by simp[nk] at hp
 | .b x,n,v,hp,h=>by rw[lS] at h ⊢;cases h;constructor
 | .i k x,n,v,hp,h=>by rw[lS] at h ⊢;cases h;constructor
 | .s l,n,v,hp,h=>by rw[lS] at h ⊢;cases h;constructor
 | .o u,n,v,hp,h=>by simp[nk] at hp
theorem agK{σ2:Nat->Nat}(hs:∀b c t fz,w.heap[b]? =some (.cells c t fz)->c.size<σ b->σ2 b=σ b):∀(r:List D)(n:Nat)(vals:Nat->Value),iC r=true->(∀(j:Nat)(d:D),(eu r n)[j]? =some d->bn w σ d (vals j))->
 ∀(j:Nat)(d:D),(eu r n)[j]? =some d->bn w σ2 d (vals j)
 |[],n,vals,hp,h,j,d,hd=>by simp[eu] at hd
 |a::r,n,vals,hp,h,j,d,hd=>by
  rw[iC,af] at hp;rw[eu] at h hd
  cases j with
  |zero=>
   simp at hd;subst hd;exact ajT hs a n _ hp.1 (h 0 _ rfl)
  |succ j=>exact agK hs r (n+qz a) (fun i=>vals (i+1)) hp.2 (fun i d hi=>h (i+1) d hi) j d hd
theorem adM{σ2:Nat->Nat}(hs:∀b c t fz,w.heap[b]? =some (.cells c t fz)->c.size<σ b->σ2 b=σ b):∀(rs:List (List D))(n:Nat)(vals:Nat->Value),iN rs=true->(∀(j:Nat)(d:D),(fC rs n).flatten[j]? =some d->bn w σ d (vals j))->
 ∀(j:Nat)(d:D),(fC rs n).flatten[j]? =some d->bn w σ2 d (vals j)
 |[],n,vals,hp,h,j,d,hd=>by simp[fC] at hd
 |r::rs,n,vals,hp,h,j,d,hd=>by
  rw[iN,af] at hp;rw[fC,cn] at h hd;by_cases hj:j<(eu r n).length
  ·rw[an hj] at hd;exact agK hs r n vals hp.1 (fun j d hd=>h j d (by rw[an (ae.1 hd).1];exact hd)) j d hd
  ·rw[ac (by omega)] at hd;have:=adM hs rs (n+pE r) (fun i=>vals ((eu r n).length+i)) hp.2 (fun j d hd=>h _ d (by rw[ac (by omega),cz];exact hd)) (j-(eu r n).length) d hd
   rwa [show(eu r n).length+(j-(eu r n).length)=j by omega] at this
end
theorem nH.data{es:List (List D)}{T v:Value}(h:nH w es T)(hv:hdr T=some v)(hσ:∀b c t fz,jS T b->w.heap[b]? =some (.cells c t fz)->c.size<=σ b):bn w σ (.sl es) v:=by
 induction h generalizing v with
 |nil a cap T h hk=>rw[h] at hv;cases hv;exact .nil a cap
 |mk b off cap z es T c t vals kids hh hne hcap hlen hb hfit hc hs hk hx hself hap qp ih=>
  rw[hh] at hv;cases hv;have hpos:0<es.length:=en.2 hne;have hfl:=gy es z hlen
  have hidx:∀j,j<es.length*z->∃hi:j/z<es.length,j % z<z/\j/z*z+j % z=j:=fun j hj=>by
   have hz:0<z:=by rcases eM z with h|h;·rw[h] at hj;simp at hj
                   ·exact h
   exact⟨(Nat.div_lt_iff_lt_mul hz).2 hj,Nat.mod_lt _ hz,by rw[Nat.mul_comm];exact Nat.div_add_mod j z⟩
  have hcell:∀j d,es.flatten[j]? =some d->∃hi:j/z<es.length,cellAt es (j/z) (j % z)=some d/\j/z*z+j % z=j:=fun j d hd=>by
   have hj:j<es.length*z:=by rw[<-hfl];exact(ae.1 hd).1
   obtain⟨hi,hm,he⟩:=hidx j hj;refine⟨hi,?_,he⟩;have:=flat_get es z hlen (j/z) (j % z) hi hm;rw[he,hd] at this;unfold cellAt;rw[al hi];exact this.symm
  refine .sl b off cap z es (fun j=>vals (j/z) (j % z)) c t (0,0) hcap hlen hb (cp hfit (hσ b c t _ (.here hh hpos) hb)) (fun j hj=> ?_) (fun j d hd=> ?_)
  ·obtain⟨hi,hce,he⟩:=hcell j _ (al (by rw[hfl];exact hj));have:=hc _ _ _ hce
   rwa [he] at this
  ·obtain⟨hi,hce,he⟩:=hcell j d hd;rcases hs _ _ _ hce with⟨es',rfl⟩|hsd
   ·obtain⟨k1,k2⟩:=hk _ _ _ hce;exact ih _ _ _ hce k2 fun b' c' t' N9 ho hb'=>hσ b' c' t' N9 (.kid k1 ho) hb'
   ·exact NK hsd
def Nn(k:Key)(rs:List (List (List D))):C->C
 | .xp k' r []=>if k'=k then(match rs[r]? with|some es=>.d (.sl es)|none=>.any) else .any
 | .d x=>.d x
 |_=>.any
def adN(k:Key)(rs:List (List (List D))):V->V
 | .c x=>.c (Nn k rs x)
 | .agg cs=>.agg (cs.map (Nn k rs))
 |_=>.any
open Classical in
theorem bL.lend{f:FuncId}{args:List V}{k:Key}{rs:List (List (List D))}{r:V}(hk:aN S k=some (.xf rs))(hr:ajS r)(h:aF P f (args.map (adN k rs)) r):bL P f args S (fun r' S'=>r'=r/\S'=S):=by
 refine⟨(h S).1,fun w σ β vs hS hargs=> ?_⟩;obtain⟨hh,hb,uq⟩:=hS.obj k _ hk;obtain⟨hX1,hX2,NZ,hX4⟩:=uq
 let L6:Nat->Nat:=fun b=>match w.heap[b]? with
  |some (.cells c _ _)=>c.size
  |_=>0
 have agL:∀b c t fz,w.heap[b]? =some (.cells c t fz)->L6 b=c.size:=fun b c t fz e=>by simp[L6,e]
 have hXlt:∀b,kS hh b->b<w.heap.size:=fun b hb'=>yI (o:=.xf rs) (S:=S) (β:=β) ⟨hX1,hX2,NZ,hX4⟩ hb'
 let σ1:Nat->Nat:=fun b=>if kS hh b then L6 b else σ b
 have hn1:bQ w σ w σ1:=fun b c t fz e=>by
  refine⟨?_,fun hlt=> ?_,c,e,rfl,fun _ _=>rfl⟩
  ·show σ b<=if kS hh b then L6 b else σ b
   split
   ·rename_i hx;rw[NZ b hx];exact ba _
   ·exact ax _
  ·show(if kS hh b then L6 b else σ b)=σ b;rw[if_neg fun hx=>by have:=NZ b hx;omega]
 have hS1:cZ w σ1 [] []:=by
  refine Jp (fun b=> ?_) (hS.lX.near hn1);by_cases hx:kS hh b
  ·exact .inl (hXlt b hx)
  ·rcases hS.live b with h'|h'
   ·exact .inl h'
   ·right;show(if kS hh b then L6 b else σ b)=0;rw[if_neg hx];exact h'
 have hlc:∀c v,dS w σ S β c v->dS w σ1 [] [] (Nn k rs c) v:=by
  intro c v hc;unfold Nn;split
  ·rename_i k' r';split
   ·rename_i e;subst e;split
    ·rename_i es hes;obtain⟨o,ho,h2⟩:=hc;rw[hk] at ho;cases ho;obtain⟨h',e1,e2⟩:=h2 rs rfl;rw[hb] at e1;cases e1;obtain⟨T,q1,q2⟩:=hX1 r' es hes;unfold Bv at e2;rw[q1] at e2;refine q2.data e2 fun b c t fz ho hb'=> ?_
     show c.size<=if kS hh b then L6 b else σ b
     rw[if_pos ⟨r',T,q1,ho⟩,agL b c t fz hb'];exact ax _
    ·trivial
   ·trivial
  ·exact bn.mono hn1 hc
  ·trivial
 have PL:jX w σ1 [] [] (args.map (adN k rs)) vs:=by
  refine⟨by rw[ai];exact hargs.1,fun j x hx=> ?_⟩;rw[be] at hx
  cases ha:args[j]? with
  |none=>rw[ha] at hx;cases hx
  |some y=>
   rw[ha] at hx;cases hx;obtain⟨v,h1,h2⟩:=hargs.2 j y ha;refine⟨v,h1,?_⟩
   cases y with
   |c x=>exact⟨hlc x v h2.1,h2.2⟩
   |agg cs=>
    obtain⟨a,e,hl,hc⟩:=h2;refine⟨a,e,by rw[ai];exact hl,fun i x hx=> ?_⟩;rw[be] at hx
    cases hi:cs[i]? with
    |none=>rw[hi] at hx;cases hx
    |some y=>
     rw[hi] at hx;cases hx;obtain⟨u,q1,q2,q3⟩:=hc i y hi;exact⟨u,q1,hlc y u q2,q3⟩
   |_=>trivial
 refine((h []).2 w σ1 [] vs hS1 PL).mono fun e w' ⟨v,r',S',σ',β',he,hS',hk',hst,hv,hr',hS2⟩=> ?_;subst hr';subst hS2
 let σ2:Nat->Nat:=fun b=>if kS hh b then 0 else σ' b
 have hg:Grow w σ w' σ2:=⟨hst.size,hst.os,hst.output,fun b hlt=>by
  obtain⟨h1,h2⟩:=hst.far b hlt Fv;refine⟨h1,?_⟩;show(if kS hh b then 0 else σ' b)=σ b;by_cases hx:kS hh b
  ·rw[if_pos hx,NZ b hx]
  ·rw[if_neg hx,h2]
   exact if_neg hx,fun b=>by
  rcases hS'.live b with h'|h'
  ·exact .inl h'
  ·right;show(if kS hh b then 0 else σ' b)=0;rw[h'];split<;>rfl⟩
 refine⟨v,_,_,σ2,β,he,hS.grow hg,Keep.refl _ _,Step.jm hg,?_,rfl,rfl⟩;refine hr w' σ' σ2 _ _ _ _ v (fun b c t fz e hlt=> ?_) hv;by_cases hx:kS hh b
 ·obtain⟨h1,h2⟩:=hst.far b (hXlt b hx) Fv;rw[h1] at e;have:σ1 b=L6 b:=if_pos hx;rw[h2,this,agL b c t fz e] at hlt;omega
 ·exact if_neg hx
end
section
variable {P:Program} {w w':World} {σ σ':Nat->Nat} {S:Store} {β:Hs}
end
end Go.Ab