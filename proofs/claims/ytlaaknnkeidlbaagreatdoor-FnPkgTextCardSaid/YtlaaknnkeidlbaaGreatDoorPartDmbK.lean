/-
  SEVERAL TEXTS IN ONE (merged by program): contracts and models, each with its own heading.
-/
import Derived.Test.YtlaaknnkeidlbaaGreatDoorPartDmbD
set_option linter.unusedSimpArgs false
set_option linter.unusedVariables false
namespace Go.Ab
mutual
def vw:D->Nat
 | .sl es=>lI es+1
 | .ol _ _=>0
 | .b _=>0
 | .i _ _=>0
 | .s _=>0
 | .o _=>0
def F6:List D->Nat
 |[]=>0
 |d::ds=>vw d+F6 ds
def lI:List (List D)->Nat
 |[]=>0
 |r::rs=>F6 r+lI rs
end
mutual
def vB:D->Nat->D
 | .sl es,n=>.ol n (eZ es (n+1))
 | .ol m es,_=>.ol m es
 | .b x,_=>.b x
 | .i k x,_=>.i k x
 | .s l,_=>.s l
 | .o v,_=>.o v
def fV:List D->Nat->List D
 |[],_=>[]
 |d::ds,n=>vB d n::fV ds (n+vw d)
def eZ:List (List D)->Nat->List (List D)
 |[],_=>[]
 |r::rs,n=>fV r n::eZ rs (n+F6 r)
end
mutual
def plD:D->Bool
 | .sl es=>anN es
 | .ol _ _=>false
 | .b _=>true
 | .i _ _=>true
 | .s _=>true
 | .o _=>false
def plR:List D->Bool
 |[]=>true
 |d::ds=>plD d&&plR ds
def anN:List (List D)->Bool
 |[]=>true
 |r::rs=>plR r&&anN rs
end
theorem MI:∀a b n,fV (a++b) n=fV a n++fV b (n+F6 a)
 |[],b,n=>by simp[fV,F6]
 |d::ds,b,n=>by rw[List.cons_append,fV,fV,MI ds b,F6,Nat.add_assoc];rfl
theorem pJ:∀a b n,eZ (a++b) n=eZ a n++eZ b (n+lI a)
 |[],b,n=>by simp[eZ,lI]
 |d::ds,b,n=>by rw[List.cons_append,eZ,eZ,pJ ds b,lI,Nat.add_assoc];rfl
theorem vW:∀r n,(fV r n).length=r.length
 |[],_=>rfl
 |d::ds,n=>by rw[fV,List.length_cons,vW ds,List.length_cons]
theorem lg:∀rs n,(eZ rs n).length=rs.length
 |[],_=>rfl
 |r::rs,n=>by rw[eZ,List.length_cons,lg rs,List.length_cons]
theorem xO{z:Nat}:∀{rs:List (List D)}{n:Nat},(∀r∈rs,r.length=z)->∀r∈eZ rs n,r.length=z
 |[],_,_,r,h=>by rw[eZ] at h;cases h
 |a::rs,n,ha,r,h=>by
  rw[eZ] at h;rcases List.mem_cons.1 h with e|h
  ·rw[e,vW];exact ha a (by simp)
  ·exact xO (fun r hr=>ha r (by simp[hr])) r h
section
variable {P:Program} {w:World} {σ σ':Nat->Nat} {S:Store} {β:Hs} {N:Nat} {s:St}
mutual
theorem aiv:∀(d:D)(n:Nat)(v:Value),dK w σ (vB d n) v->dK w σ d v
 | .sl es,n,v,h=>by
   rw[vB] at h;have hl:=lg es (n+1);have hrec:=akb es (n+1);generalize eZ es (n+1)=q at h hl hrec
   cases h with
   |yJ n a cap=>
    have:es=[]:=List.eq_nil_of_length_eq_zero (by simpa using hl.symm);subst this;exact .nil a cap
   |ol n b off cap bg q vals c t hcap hlen hb hσ hfit hc hv hx=>
    obtain⟨r1,r2⟩:=hrec vals hv;rw[hl] at hcap hfit hc ⊢;refine .sl b off cap bg es vals c t (0,0) hcap (fun e he=> ?_) hb (by omega) hc r2;obtain⟨e',h1,h2⟩:=r1 e he;rw[<-h2];exact hlen e' h1
 | .ol m es,n,v,h=>h
 | .b x,n,v,h=>h
 | .i k x,n,v,h=>h
 | .s l,n,v,h=>h
 | .o u,n,v,h=>h
theorem anO:∀(r:List D)(n:Nat)(vals:Nat->Value),(∀j d,(fV r n)[j]? =some d->dK w σ d (vals j))->∀(j:Nat) d,r[j]? =some d->dK w σ d (vals j)
 |[],n,vals,h,j,d,hd=>by simp at hd
 |a::r,n,vals,h,j,d,hd=>by
  cases j with
  |zero=>
   simp at hd;subst hd;exact aiv a n _ (h 0 _ rfl)
  |succ j=>exact anO r (n+vw a) (fun i=>vals (i+1)) (fun i d hi=>h (i+1) d (by rw[fV];exact hi)) j d hd
theorem akb:∀(rs:List (List D))(n:Nat)(vals:Nat->Value),(∀j d,(eZ rs n).flatten[j]? =some d->dK w σ d (vals j))->
 (∀e∈rs,∃e'∈eZ rs n,e'.length=e.length)/\∀(j:Nat) d,rs.flatten[j]? =some d->dK w σ d (vals j)
 |[],n,vals,h=>⟨fun e he=>(by cases he),fun j d hd=>(by simp at hd)⟩
 |r::rs,n,vals,h=>by
  rw[eZ,List.flatten_cons] at h;have h1:=anO r n vals fun j d hd=>h j d (by rw[List.getElem?_append_left (List.getElem?_eq_some_iff.1 hd).1];exact hd);obtain⟨h2,h3⟩:=akb rs (n+F6 r) (fun i=>vals (r.length+i)) fun j d hd=>h (r.length+j) d (by rw[List.getElem?_append_right (by rw[vW];omega),vW,Nat.add_sub_cancel_left];exact hd);refine⟨fun e he=> ?_,fun j d hd=> ?_⟩
  ·rcases List.mem_cons.1 he with e1|he
   ·subst e1;exact⟨_,by rw[eZ];exact List.mem_cons_self ..,vW _ _⟩
   ·obtain⟨e',q1,q2⟩:=h2 e he;exact⟨e',by rw[eZ];exact List.mem_cons_of_mem _ q1,q2⟩
  ·rw[List.flatten_cons] at hd;by_cases hj:j<r.length
   ·rw[List.getElem?_append_left hj] at hd;exact h1 j d hd
   ·rw[List.getElem?_append_right (by omega)] at hd;have:=h3 (j-r.length) d hd
    rwa [show r.length+(j-r.length)=j by omega] at this
end
theorem IJ{r:List D}{n:Nat}:Less (.agg ((fV r n).map .d)) (.agg (r.map .d)):=by
 rintro w σ S β v ⟨a,ha,hl,hc⟩;rw[List.length_map,vW] at hl;refine⟨a,ha,by rw[List.length_map];exact hl,?_⟩
 have key:∀(r:List D)(n:Nat)(vs:List Value),(∀(j:Nat)(x:C),((fV r n).map C.d)[j]? =some x->∃v:Value,vs[j]? =some v/\iG w σ S β x v/\v.oneCell'=true)->
  ∀(j:Nat)(x:C),(r.map C.d)[j]? =some x->∃v:Value,vs[j]? =some v/\iG w σ S β x v/\v.oneCell'=true:=by
  intro r
  induction r with
  |nil=>intro n vs h j x hx;simp at hx
  |cons d ds ih=>
   intro n vs h j x hx
   cases j with
   |zero=>
    simp at hx;subst hx;obtain⟨v,h1,h2,h3⟩:=h 0 (.d (vB d n)) rfl;exact⟨v,h1,aiv d n v h2,h3⟩
   |succ j=>
    have:=ih (n+vw d) vs.tail (fun i y hy=>by
     obtain⟨v,h1,h2⟩:=h (i+1) y (by rw[fV,List.map_cons];exact hy);refine⟨v,?_,h2⟩
     cases vs with
     |nil=>simp at h1
     |cons a b=>exact h1) j x hx
    obtain⟨v,h1,h2⟩:=this;refine⟨v,?_,h2⟩
    cases vs with
    |nil=>simp at h1
    |cons a b=>exact h1
 exact key r n _ hc
theorem afc{r:List D}{n:Nat}{w:World}{σ:Nat->Nat}{S:Store}{β:Hs}{vs:List Value}(h:gu w σ S β ((fV r n).map .d) vs):gu w σ S β (r.map .d) vs:=by
 obtain⟨a,ha,hc⟩:=IJ w σ S β (.agg vs.toArray) ⟨vs.toArray,rfl,by simpa using h⟩;cases ha;simpa using hc
inductive vL:List V->List V->Prop
 |nil:vL [] []
 |cons {x y:V} {xs ys:List V}:Less x y->vL xs ys->vL (x::xs) (y::ys)
theorem vL.length:∀{xs ys:List V},vL xs ys->xs.length=ys.length
 |_,_,.nil=>rfl
 |_,_,.cons _ h=>by rw[List.length_cons,List.length_cons,vL.length h]
theorem vL.at:∀{xs ys:List V},vL xs ys->∀(j:Nat)(x y:V),xs[j]? =some x->ys[j]? =some y->Less x y
 |_,_,.nil,j,x,y,h,_=>by simp at h
 |_,_,.cons a h,0,x,y,h1,h2=>by simp at h1 h2;subst h1;subst h2;exact a
 |_,_,.cons a h,j+1,x,y,h1,h2=>vL.at h j x y (by simpa using h1) (by simpa using h2)
theorem aF.args{f:FuncId}{args args':List V}{r:V}(h:aF P f args' r)(hl:vL args args'):aF P f args r:=fun S=>(h S).weaken hl.length fun j x y hx hy w σ β v hr=>hl.at j x y hx hy w σ S β v hr
theorem jS{dr:Option Nat}{f:FuncId}{args args':List V}{dst:Option Nat}{K:St->Prop}{r:V}(h:aF P f args' r)(hl:vL (args.map V.uf) args')(hK:K (s.put dst r)):fB P dr f args s dst K:=bD (h.args hl) hK
def aiw(row:Bool)(j n:Nat)(es:List (List D))(tm:List (Nat×V)):List (Nat×V):=tm.map fun x=>(x.1,x.2.mE (C.lab row j n es))
theorem afd{row:Bool}{j n:Nat}{es:List (List D)}{tm:List (Nat×V)}{t:Nat}:look (aiw row j n es tm) t=(look tm t).mE (C.lab row j n es):=Io (f:=V.mE (C.lab row j n es)) rfl tm t
def abX(j n:Nat)(tm:List (Nat×V))(own:List Obj)(Ω:Store):Option Obj->St
 |some (.fO _ es)=>⟨aiw true j n es tm,(own.map (Obj.mE (C.lab true j n es))).set j .dead::Ω⟩
 |some (.eG m _ es)=>⟨aiw false j m es tm,(own.map (Obj.mE (C.lab false j m es))).set j .dead::Ω⟩
 |_=>⟨tm,own::Ω⟩
def UM(j n:Nat)(s:St):St:=
 match s.st with
 |own::Ω=>abX j n s.tm own Ω (own[j]?)
 |[]=>s
def PS:Nat->Nat->St->St
 |0,_,s=>s
 |k+1,n,s=>PS k n (UM k n s)
def GX(n:Nat)(s:St):St:=
 match s.st with
 |own::_=>PS own.length n s
 |[]=>s
theorem MJ(j n:Nat)(s:St):ig N s (UM j n s):=by
 obtain⟨tm,st⟩:=s
 cases st with
 |nil=>exact ig.refl _ _
 |cons own Ω=>
  show ig N ⟨tm,own::Ω⟩ (abX j n tm own Ω (own[j]?))
  cases ho:own[j]? with
  |none=>exact ig.refl _ _
  |some o=>
   cases o with
   |fO z es=>exact fun a w σ β hR=>ZK j n z es true ho hR
   |eG m z es=>exact fun a w σ β hR=>ZK j m z es false ho hR
   |_=>exact ig.refl _ _
theorem MK:∀(k n:Nat)(s:St),ig N s (PS k n s)
 |0,n,s=>ig.refl _ _
 |k+1,n,s=>(MJ k n s).trans (MK k n _)
theorem EF(n:Nat)(s:St):ig N s (GX n s):=by
 unfold GX;split
 ·exact MK _ _ _
 ·exact ig.refl _ _
theorem aix{j n:Nat}{tm:List (Nat×V)}{own:List Obj}{Ω:Store}:UM j n ⟨tm,own::Ω⟩=abX j n tm own Ω (own[j]?):=rfl
theorem afe{n:Nat}{tm:List (Nat×V)}{own:List Obj}{Ω:Store}:GX n ⟨tm,own::Ω⟩=PS own.length n ⟨tm,own::Ω⟩:=rfl
def WM(P:Program)(n:Nat)(rs:List ResultVar)(post:V->Store->Prop)(e:Exit)(s:St):Prop:=agF P rs post e (GX n s)
theorem aiy{n:Nat}{rs:List ResultVar}{post:V->Store->Prop}:WM P n rs post .ret s=V7 P rs post (GX n s):=rfl
theorem YX{n:Nat}{rs:List ResultVar}{post:V->Store->Prop}:WM P n rs post .normal s=V7 P rs post (GX n s):=rfl
theorem lq(n:Nat){f:FuncId}{fn:Func}{c:Code}{args:List V}{post:V->Store->Prop}{rs:List ResultVar}(gI:P.follows .mixedOrders=true)(hf:P.funcs[f]? =some fn)(hN:fn.ntmps=N)
 (hb:fn.body=some c) (hn:(fn.name== "runtime.NumGoroutine")=false) (hr:fn.results.toList=rs) (hl:Nat.ble args.length N=true) (hok:codeOk N c=true)
 (h:CW P N c (WM P n rs post) ⟨mO (args.map (V.up 1)) 0,[.seed n]::S⟩):bX P f args S post:=by
 subst hN;subst hr;exact tK hf hb hn (Nat.le_of_ble_eq_true hl) (Q6 n (yA (EF n) (kE gI c _ _ hok h)))
theorem aiz{row:Bool}{j n l i:Nat}{es es':List (List D)}:C.lab row j n es (.bI (1+l,i) es')=.bI (1+l,i) es':=by rw[Nat.add_comm];rfl
theorem aiA{row:Bool}{j n i:Nat}{es es':List (List D)}:C.lab row j n es (.bI (0,i) es')=if i=j/\row=false/\es'.length=es.length then .d (.ol n es) else .bI (0,i) es':=rfl
theorem aiB{row:Bool}{j n l i:Nat}{es:List (List D)}:C.lab row j n es (.jQ (1+l,i))=.jQ (1+l,i):=by rw[Nat.add_comm];rfl
theorem aiC{row:Bool}{j n i:Nat}{es:List (List D)}:C.lab row j n es (.jQ (0,i))=if i=j/\row=true then .d (.ol n es) else .jQ (0,i):=rfl
theorem ap4{row:Bool}{j n:Nat}{es:List (List D)}{x:D}:C.lab row j n es (.d x)=.d x:=rfl
theorem alC{row:Bool}{j n:Nat}{es:List (List D)}:C.lab row j n es .any=.any:=rfl
theorem alD{row:Bool}{j n:Nat}{es es':List (List D)}:C.lab row j n es (.bF es')=.bF es':=rfl
theorem alE{row:Bool}{j n m:Nat}{es es':List (List D)}:C.lab row j n es (.lG m es')=.lG m es':=rfl
theorem alF{row:Bool}{j n off:Nat}{es:List (List D)}{k:Key}:C.lab row j n es (.ptr k off)=.ptr k off:=rfl
theorem anP{row:Bool}{j n f:Nat}{es:List (List D)}{caps:List (Key×Nat)}:C.lab row j n es (.fn f caps)=.fn f caps:=rfl
theorem aiD{row:Bool}{j n:Nat}{es:List (List D)}{cs:List D}:C.lab row j n es (.nG cs)=.nG cs:=rfl
theorem kH{ι:Type}{ts:List Nat}{f:ι->List V}{g:ι->Store}{p:ι->Prop}{μ:ι->Nat}{i:ι}{tm:List (Nat×V)}{own:List Obj}{Ω:Store}{m:Nat}(m' n:Nat)(hnd:ts.Nodup)(j:ι)(h1:μ j<μ i)(h2:ts.map (look tm)=f j)(h3:(Obj.seed m'::own.take n)::Ω=g j)
 (hr:iN (n+1) (gT ts (f j))=true)(ho:(own.take n).all (Obj.refs (n+1))=true)(h4:p j):Inv N ts f g p μ i ⟨tm,(.seed m::own)::Ω⟩:=by
 refine⟨j,⟨gT ts (f j),(.seed m'::own.take n)::Ω⟩,h1,?_,?_,h3,h4⟩
 ·have hg:ig N ⟨tm,(.seed m::own)::Ω⟩ ⟨gT ts (f j),(.seed m::own)::Ω⟩:=by
   rw[<-h2];exact M6 fun t=>AO _ ts t
  refine hg.trans ((OL (n+1) hr ?_).trans (El m'));rw[List.take_succ_cons,List.all_cons,ho];rfl
 ·exact Eo ts (f j) hnd (by rw[<-h2];simp)
end
attribute [go_sem ↓] aiy YX afe
attribute [go_sem] PS aix abX afd V.mE Obj.mE aiz aiA aiB aiC ap4 alC alD alE alF anP aiD
section
variable {P:Program} {w w':World} {σ σ':Nat->Nat} {S:Store} {β:Hs}
def Cc(w:World)(σ:Nat->Nat)(lo hi b:Nat):Prop:=∃c t fz m,w.heap[b]? =some (.cells c t fz)/\σ b=c.size+1+m/\lo<=m/\m<hi
theorem Cc.mono{lo hi lo' hi' b:Nat}(h:Cc w σ lo hi b)(h1:lo'<=lo)(h2:hi<=hi'):Cc w σ lo' hi' b:=by
 obtain⟨c,t,fz,m,a1,a2,a3,a4⟩:=h;exact⟨c,t,fz,m,a1,a2,by omega,by omega⟩
theorem Cc.apart{lo hi lo' hi' b:Nat}(h:Cc w σ lo hi b)(h':Cc w σ lo' hi' b)(ho:hi<=lo'):False:=by
 obtain⟨c,t,fz,m,a1,a2,a3,a4⟩:=h;obtain⟨c',t',ZE,m',b1,b2,b3,b4⟩:=h';rw[a1] at b1;cases b1;omega
abbrev Kids:=List (List (Option Value))
def Dz(rows:Kids)(i o:Nat):Option Value:=((rows[i]?).bind fun r=>r[o]?).bind id
def akc(rows:Kids):Array Value:=(rows.map fun r=>Value.tuple (r.map fun u=>u.getD (.bool false)).toArray).toArray
def mkT(v:Value)(rows:Kids):Value:=.tuple #[v,.tuple (akc rows)]
def IsT(v:Value):Prop:=∃a,v=.tuple a
theorem alG{v:Value}{rows:Kids}(h:∀i o u,Dz rows i o=some u->IsT u)(i o:Nat):kid (mkT v rows) i o=Dz rows i o:=by
 have h':=h i o
 unfold kid mkT akc Dz at *
 simp only[List.getElem?_toArray,List.getElem?_cons_succ,List.getElem?_cons_zero,List.getElem?_map]
 cases hr:rows[i]? with
 |none=>rfl
 |some r=>
  rw[hr] at h';simp only[Option.map_some,List.getElem?_toArray,List.getElem?_map]
  cases hu:r[o]? with
  |none=>simp[hu]
  |some u=>
   simp only[Option.bind_some,hu,id] at h'
   cases u with
   |none=>simp[hu]
   |some u=>
    obtain⟨a,rfl⟩:=h' u rfl;simp[hu]
def akd(w:World)(d:D)(v:Value)(u:Option Value):Prop:=
 match d with
 | .sl es=>∃T,u=some T/\IsT T/\hdr T=some v/\uj w es T
 |d=>u=none/\SD d v
structure atz(w:World)(σ:Nat->Nat)(r:List D)(n m:Nat)(vals:Nat->Value)(us:List (Option Value)):Prop where
 len:us.length=r.length
 cell:∀(j:Nat)(d:D),r[j]? =some d->∃u,us[j]? =some u/\akd w d (vals j) u
 own:∀(j:Nat)(u:Value),us[j]? =some (some u)->∀b,o9 u b->Cc w σ n m b
 apart:∀(j j':Nat)(u u':Value)(b:Nat),j≠j'->us[j]? =some (some u)->us[j']? =some (some u')->o9 u b->o9 u' b->False
structure atm(w:World)(σ:Nat->Nat)(z:Nat)(rs:List (List D))(n m:Nat)(vals:Nat->Value)(U:Kids):Prop where
 cell:∀(i o:Nat)(d:D),cellAt rs i o=some d->∃u,((U[i]?).bind fun r=>r[o]?)=some u/\akd w d (vals (i*z+o)) u
 kid:∀(i o:Nat)(u:Value),Dz U i o=some u->∃es,cellAt rs i o=some (.sl es)
 own:∀(i o:Nat)(u:Value),Dz U i o=some u->∀b,o9 u b->Cc w σ n m b
 apart:∀(i o i' o':Nat)(u u':Value)(b:Nat),(i,o)≠(i',o')->Dz U i o=some u->Dz U i' o'=some u'->o9 u b->o9 u' b->False
end
section
variable {P:Program} {w w':World} {σ σ':Nat->Nat} {S:Store} {β:Hs}
def atn:D->List (List D)
 | .sl es=>es
 |_=>[]
def ap5(k:Key)(j:Nat):D->C
 | .sl _=>.xp k j []
 |d=>.d d
def ar9(k:Key):Nat->List D->List C
 |_,[]=>[]
 |j,d::ds=>ap5 k j d::ar9 k (j+1) ds
def abY:C->C
 | .d x=>.d x
 | .bF es=>.d (.sl es)
 | .bI _ es=>.d (.sl es)
 | .lG n es=>.d (.ol n es)
 | .nG cs=>.nG cs
 |_=>.any
def abZ:V->V
 | .c x=>.c (abY x)
 | .agg cs=>.agg (cs.map abY)
 |_=>.any
theorem SY{c:C}{v:Value}(h:iG w σ S β c v)(S':Store)(β':Hs):iG w σ S' β' (abY c) v:=by
 cases c with
 |d x=>exact h
 |bF es=>exact h.1
 |bI k es=>exact h.1
 |lG n es=>exact h.1
 |nG cs=>exact h
 |_=>trivial
theorem aiE{x:V}{v:Value}(h:dM w σ S β x v)(S':Store)(β':Hs):dM w σ S' β' (abZ x) v:=by
 cases x with
 |c x=>exact⟨SY h.1 _ _,h.2⟩
 |agg cs=>
  obtain⟨a,ha,hl,hc⟩:=h;refine⟨a,ha,by rw[List.length_map];exact hl,fun i x hx=> ?_⟩;rw[List.getElem?_map] at hx
  cases hi:cs[i]? with
  |none=>rw[hi] at hx;cases hx
  |some y=>
   rw[hi] at hx;cases hx;obtain⟨u,q1,q2,q3⟩:=hc i y hi;exact⟨u,q1,SY q2 _ _,q3⟩
 |_=>trivial
def asR(mk:List C->V)(m:Nat):Prop:=∀w σ S β cs v,cs.length=m->dM w σ S β (mk cs) v->∃vs,gu w σ S β cs vs/\∀w' σ' S' β' cs',cs'.length=m->gu w' σ' S' β' cs' vs->dM w' σ' S' β' (mk cs') v
def Ce:Value:=mkT (.slice none 0 0) []
theorem S9(i o:Nat):kid Ce i o=none:=by
 unfold Ce;rw[alG (fun i o u h=>by simp[Dz] at h)];simp[Dz]
theorem PU{b:Nat}:¬o9 Ce b:=fun h=>by
 cases h with
 |here h1 h2=>cases h1
 |kid h1 h2=>rw[S9] at h1;cases h1
end
section
variable {P:Program} {w w':World} {σ σ':Nat->Nat} {S:Store} {β:Hs}
def atB(r:V):Prop:=∀w σ σ2 S β S2 β2 v,(∀b c t fz,w.heap[b]? =some (.cells c t fz)->c.size<σ b->σ2 b=σ b)->dM w σ S β r v->dM w σ2 S2 β2 r v
theorem uj.data{es:List (List D)}{T v:Value}(h:uj w es T)(hv:hdr T=some v)(hσ:∀b c t fz,o9 T b->w.heap[b]? =some (.cells c t fz)->c.size<=σ b):dK w σ (.sl es) v:=by
 induction h generalizing v with
 |nil a cap T h hk=>rw[h] at hv;cases hv;exact .nil a cap
 |mk b off cap z es T c t vals kids hh hne hcap hlen hb hfit hc hs hk hx hself hap Ct ih=>
  rw[hh] at hv;cases hv;have hpos:0<es.length:=List.length_pos_iff.2 hne;have hfl:=jB es z hlen
  have hidx:∀j,j<es.length*z->∃hi:j/z<es.length,j % z<z/\j/z*z+j % z=j:=fun j hj=>by
   have hz:0<z:=by rcases Nat.eq_zero_or_pos z with h|h;·rw[h] at hj;simp at hj
                   ·exact h
   exact⟨(Nat.div_lt_iff_lt_mul hz).2 hj,Nat.mod_lt _ hz,by rw[Nat.mul_comm];exact Nat.div_add_mod j z⟩
  have hcell:∀j d,es.flatten[j]? =some d->∃hi:j/z<es.length,cellAt es (j/z) (j % z)=some d/\j/z*z+j % z=j:=fun j d hd=>by
   have hj:j<es.length*z:=by rw[<-hfl];exact(List.getElem?_eq_some_iff.1 hd).1
   obtain⟨hi,hm,he⟩:=hidx j hj;refine⟨hi,?_,he⟩;have:=flat_get es z hlen (j/z) (j % z) hi hm;rw[he,hd] at this;unfold cellAt;rw[List.getElem?_eq_getElem hi];exact this.symm
  refine .sl b off cap z es (fun j=>vals (j/z) (j % z)) c t (0,0) hcap hlen hb (Nat.le_trans hfit (hσ b c t _ (.here hh hpos) hb)) (fun j hj=> ?_) (fun j d hd=> ?_)
  ·obtain⟨hi,hce,he⟩:=hcell j _ (List.getElem?_eq_getElem (by rw[hfl];exact hj));have:=hc _ _ _ hce
   rwa [he] at this
  ·obtain⟨hi,hce,he⟩:=hcell j d hd;rcases hs _ _ _ hce with⟨es',rfl⟩|hsd
   ·obtain⟨k1,k2⟩:=hk _ _ _ hce;exact ih _ _ _ hce k2 fun b' c' t' ZE ho hb'=>hσ b' c' t' ZE (.kid k1 ho) hb'
   ·exact ado hsd
def ake(k:Key)(rs:List (List (List D))):C->C
 | .xp k' r []=>if k'=k then(match rs[r]? with|some es=>.d (.sl es)|none=>.any) else .any
 | .d x=>.d x
 |_=>.any
def ato(k:Key)(rs:List (List (List D))):V->V
 | .c x=>.c (ake k rs x)
 | .agg cs=>.agg (cs.map (ake k rs))
 |_=>.any
end
section
variable {P:Program} {w w':World} {σ σ':Nat->Nat} {S:Store} {β:Hs}
end
end Go.Ab