/-
  SEVERAL TEXTS IN ONE (merged by program): contracts and models, each with its own heading.
-/
import Derived.Test.YtbaefeecjjhhkaaGreatDoorPartOcbE
import Derived.Test.YtbaefeecjjhhkaaGreatDoorPartOcbH
import Derived.Test.YtbaefeecjjhhkaaGreatDoorPartOcbL
import Derived.Lib.ItoaNum
import Derived.Shelf.LaysM
import Derived.Shelf.Strconv.Itoa3
import Derived.Test.YtbaefeecjjhhkaaGreatDoorProg
import Derived.Lib.AppendZeros
import Derived.Laws.Cover3
set_option maxHeartbeats 8000000
open Go.Proofs Go.Proofs.Tryz
set_option linter.unusedSimpArgs false
set_option linter.unusedVariables false
set_option maxRecDepth 4000
namespace Go.Ab
mutual
def uP:D->Nat
 | .sl es=>jf es+1
 | .ol _ _=>0
 | .b _=>0
 | .i _ _=>0
 | .s _=>0
 | .o _=>0
def F3:List D->Nat
 |[]=>0
 |d::ds=>uP d+F3 ds
def jf:List (List D)->Nat
 |[]=>0
 |r::rs=>F3 r+jf rs
end
mutual
def tZ:D->Nat->D
 | .sl es,n=>.ol n (dX es (n+1))
 | .ol m es,_=>.ol m es
 | .b x,_=>.b x
 | .i k x,_=>.i k x
 | .s l,_=>.s l
 | .o v,_=>.o v
def fQ:List D->Nat->List D
 |[],_=>[]
 |d::ds,n=>tZ d n::fQ ds (n+uP d)
def dX:List (List D)->Nat->List (List D)
 |[],_=>[]
 |r::rs,n=>fQ r n::dX rs (n+F3 r)
end
mutual
def plD:D->Bool
 | .sl es=>anv es
 | .ol _ _=>false
 | .b _=>true
 | .i _ _=>true
 | .s _=>true
 | .o _=>false
def plR:List D->Bool
 |[]=>true
 |d::ds=>plD d&&plR ds
def anv:List (List D)->Bool
 |[]=>true
 |r::rs=>plR r&&anv rs
end
theorem MH:∀a b n,fQ (a++b) n=fQ a n++fQ b (n+F3 a)
 |[],b,n=>by simp[fQ,F3]
 |d::ds,b,n=>by rw[List.cons_append,fQ,fQ,MH ds b,F3,Nat.add_assoc];rfl
theorem nQ:∀a b n,dX (a++b) n=dX a n++dX b (n+jf a)
 |[],b,n=>by simp[dX,jf]
 |d::ds,b,n=>by rw[List.cons_append,dX,dX,nQ ds b,jf,Nat.add_assoc];rfl
theorem vL:∀r n,(fQ r n).length=r.length
 |[],_=>rfl
 |d::ds,n=>by rw[fQ,List.length_cons,vL ds,List.length_cons]
theorem kC:∀rs n,(dX rs n).length=rs.length
 |[],_=>rfl
 |r::rs,n=>by rw[dX,List.length_cons,kC rs,List.length_cons]
theorem xA{z:Nat}:∀{rs:List (List D)}{n:Nat},(∀r∈rs,r.length=z)->∀r∈dX rs n,r.length=z
 |[],_,_,r,h=>by rw[dX] at h;cases h
 |a::rs,n,ha,r,h=>by
  rw[dX] at h;rcases List.mem_cons.1 h with e|h
  ·rw[e,vL];exact ha a (by simp)
  ·exact xA (fun r hr=>ha r (by simp[hr])) r h
section
variable {P:Program} {w:World} {σ σ':Nat->Nat} {S:Store} {β:Hs} {N:Nat} {s:St}
mutual
theorem aiT:∀(d:D)(n:Nat)(v:Value),dJ w σ (tZ d n) v->dJ w σ d v
 | .sl es,n,v,h=>by
   rw[tZ] at h;have hl:=kC es (n+1);have hrec:=aj8 es (n+1);generalize dX es (n+1)=q at h hl hrec
   cases h with
   |x9 n a cap=>
    have:es=[]:=List.eq_nil_of_length_eq_zero (by simpa using hl.symm);subst this;exact .nil a cap
   |ol n b off cap aW q vals c t hcap hlen hb hσ hfit hc hv=>
    obtain⟨r1,r2⟩:=hrec vals hv;rw[hl] at hcap hfit hc ⊢;refine .sl b off cap aW es vals c t (0,0) hcap (fun e he=> ?_) hb (by omega) hc r2;obtain⟨e',h1,h2⟩:=r1 e he;rw[<-h2];exact hlen e' h1
 | .ol m es,n,v,h=>h
 | .b x,n,v,h=>h
 | .i k x,n,v,h=>h
 | .s l,n,v,h=>h
 | .o u,n,v,h=>h
theorem anw:∀(r:List D)(n:Nat)(vals:Nat->Value),(∀j d,(fQ r n)[j]? =some d->dJ w σ d (vals j))->∀(j:Nat) d,r[j]? =some d->dJ w σ d (vals j)
 |[],n,vals,h,j,d,hd=>by simp at hd
 |a::r,n,vals,h,j,d,hd=>by
  cases j with
  |zero=>
   simp at hd;subst hd;exact aiT a n _ (h 0 _ rfl)
  |succ j=>exact anw r (n+uP a) (fun i=>vals (i+1)) (fun i d hi=>h (i+1) d (by rw[fQ];exact hi)) j d hd
theorem aj8:∀(rs:List (List D))(n:Nat)(vals:Nat->Value),(∀j d,(dX rs n).flatten[j]? =some d->dJ w σ d (vals j))->
 (∀e∈rs,∃e'∈dX rs n,e'.length=e.length)/\∀(j:Nat) d,rs.flatten[j]? =some d->dJ w σ d (vals j)
 |[],n,vals,h=>⟨fun e he=>(by cases he),fun j d hd=>(by simp at hd)⟩
 |r::rs,n,vals,h=>by
  rw[dX,List.flatten_cons] at h;have h1:=anw r n vals fun j d hd=>h j d (by rw[List.getElem?_append_left (List.getElem?_eq_some_iff.1 hd).1];exact hd);obtain⟨h2,h3⟩:=aj8 rs (n+F3 r) (fun i=>vals (r.length+i)) fun j d hd=>h (r.length+j) d (by rw[List.getElem?_append_right (by rw[vL];omega),vL,Nat.add_sub_cancel_left];exact hd);refine⟨fun e he=> ?_,fun j d hd=> ?_⟩
  ·rcases List.mem_cons.1 he with e1|he
   ·subst e1;exact⟨_,by rw[dX];exact List.mem_cons_self ..,vL _ _⟩
   ·obtain⟨e',q1,q2⟩:=h2 e he;exact⟨e',by rw[dX];exact List.mem_cons_of_mem _ q1,q2⟩
  ·rw[List.flatten_cons] at hd;by_cases hj:j<r.length
   ·rw[List.getElem?_append_left hj] at hd;exact h1 j d hd
   ·rw[List.getElem?_append_right (by omega)] at hd;have:=h3 (j-r.length) d hd
    rwa [show r.length+(j-r.length)=j by omega] at this
end
theorem IQ{r:List D}{n:Nat}:Less (.agg ((fQ r n).map .d)) (.agg (r.map .d)):=by
 rintro w σ S β v ⟨a,ha,hl,hc⟩;rw[List.length_map,vL] at hl;refine⟨a,ha,by rw[List.length_map];exact hl,?_⟩
 have key:∀(r:List D)(n:Nat)(vs:List Value),(∀(j:Nat)(x:C),((fQ r n).map C.d)[j]? =some x->∃v:Value,vs[j]? =some v/\lC w σ S β x v/\v.oneCell'=true)->
  ∀(j:Nat)(x:C),(r.map C.d)[j]? =some x->∃v:Value,vs[j]? =some v/\lC w σ S β x v/\v.oneCell'=true:=by
  intro r
  induction r with
  |nil=>intro n vs h j x hx;simp at hx
  |cons d ds ih=>
   intro n vs h j x hx
   cases j with
   |zero=>
    simp at hx;subst hx;obtain⟨v,h1,h2,h3⟩:=h 0 (.d (tZ d n)) rfl;exact⟨v,h1,aiT d n v h2,h3⟩
   |succ j=>
    have:=ih (n+uP d) vs.tail (fun i y hy=>by
     obtain⟨v,h1,h2⟩:=h (i+1) y (by rw[fQ,List.map_cons];exact hy);refine⟨v,?_,h2⟩
     cases vs with
     |nil=>simp at h1
     |cons a b=>exact h1) j x hx
    obtain⟨v,h1,h2⟩:=this;refine⟨v,?_,h2⟩
    cases vs with
    |nil=>simp at h1
    |cons a b=>exact h1
 exact key r n _ hc
theorem SV{r:List D}{n:Nat}{w:World}{σ:Nat->Nat}{S:Store}{β:Hs}{vs:List Value}(h:gL w σ S β ((fQ r n).map .d) vs):gL w σ S β (r.map .d) vs:=by
 obtain⟨a,ha,hc⟩:=IQ w σ S β (.agg vs.toArray) ⟨vs.toArray,rfl,by simpa using h⟩;cases ha;simpa using hc
inductive vk:List V->List V->Prop
 |nil:vk [] []
 |cons {x y:V} {xs ys:List V}:Less x y->vk xs ys->vk (x::xs) (y::ys)
theorem vk.length:∀{xs ys:List V},vk xs ys->xs.length=ys.length
 |_,_,.nil=>rfl
 |_,_,.cons _ h=>by rw[List.length_cons,List.length_cons,vk.length h]
theorem vk.at:∀{xs ys:List V},vk xs ys->∀(j:Nat)(x y:V),xs[j]? =some x->ys[j]? =some y->Less x y
 |_,_,.nil,j,x,y,h,_=>by simp at h
 |_,_,.cons a h,0,x,y,h1,h2=>by simp at h1 h2;subst h1;subst h2;exact a
 |_,_,.cons a h,j+1,x,y,h1,h2=>vk.at h j x y (by simpa using h1) (by simpa using h2)
theorem aC.args{f:FuncId}{args args':List V}{r:V}(h:aC P f args' r)(hl:vk args args'):aC P f args r:=fun S=>(h S).weaken hl.length fun j x y hx hy w σ β v hr=>hl.at j x y hx hy w σ S β v hr
theorem jY{dr:Option Nat}{f:FuncId}{args args':List V}{dst:Option Nat}{K:St->Prop}{r:V}(h:aC P f args' r)(hl:vk (args.map V.tq) args')(hK:K (s.put dst r)):fA P dr f args s dst K:=aX (h.args hl) hK
def aiU(row:Bool)(j n:Nat)(es:List (List D))(tm:List (Nat×V)):List (Nat×V):=tm.map fun x=>(x.1,x.2.mP (C.lab row j n es))
theorem afv{row:Bool}{j n:Nat}{es:List (List D)}{tm:List (Nat×V)}{t:Nat}:look (aiU row j n es tm) t=(look tm t).mP (C.lab row j n es):=Im (f:=V.mP (C.lab row j n es)) rfl tm t
def acN(j n:Nat)(tm:List (Nat×V))(own:List Obj)(Ω:Store):Option Obj->St
 |some (.gF _ es)=>⟨aiU true j n es tm,(own.map (Obj.mP (C.lab true j n es))).set j .dead::Ω⟩
 |some (.eu m _ es)=>⟨aiU false j m es tm,(own.map (Obj.mP (C.lab false j m es))).set j .dead::Ω⟩
 |_=>⟨tm,own::Ω⟩
def UN(j n:Nat)(s:St):St:=
 match s.st with
 |own::Ω=>acN j n s.tm own Ω (own[j]?)
 |[]=>s
def PE:Nat->Nat->St->St
 |0,_,s=>s
 |k+1,n,s=>PE k n (UN k n s)
def GN(n:Nat)(s:St):St:=
 match s.st with
 |own::_=>PE own.length n s
 |[]=>s
theorem MI(j n:Nat)(s:St):gU N s (UN j n s):=by
 obtain⟨tm,st⟩:=s
 cases st with
 |nil=>exact gU.refl _ _
 |cons own Ω=>
  show gU N ⟨tm,own::Ω⟩ (acN j n tm own Ω (own[j]?))
  cases ho:own[j]? with
  |none=>exact gU.refl _ _
  |some o=>
   cases o with
   |gF z es=>exact fun a w σ β hR=>Z6 j n z es true ho hR
   |eu m z es=>exact fun a w σ β hR=>Z6 j m z es false ho hR
   |_=>exact gU.refl _ _
theorem MJ:∀(k n:Nat)(s:St),gU N s (PE k n s)
 |0,n,s=>gU.refl _ _
 |k+1,n,s=>(MI k n s).trans (MJ k n _)
theorem zR(n:Nat)(s:St):gU N s (GN n s):=by
 unfold GN;split
 ·exact MJ _ _ _
 ·exact gU.refl _ _
theorem aiV{j n:Nat}{tm:List (Nat×V)}{own:List Obj}{Ω:Store}:UN j n ⟨tm,own::Ω⟩=acN j n tm own Ω (own[j]?):=rfl
theorem afw{n:Nat}{tm:List (Nat×V)}{own:List Obj}{Ω:Store}:GN n ⟨tm,own::Ω⟩=PE own.length n ⟨tm,own::Ω⟩:=rfl
def Rk(P:Program)(n:Nat)(rs:List ResultVar)(post:V->Store->Prop)(e:Exit)(s:St):Prop:=agU P rs post e (GN n s)
theorem aiW{n:Nat}{rs:List ResultVar}{post:V->Store->Prop}:Rk P n rs post .ret s=VX P rs post (GN n s):=rfl
theorem Zh{n:Nat}{rs:List ResultVar}{post:V->Store->Prop}:Rk P n rs post .normal s=VX P rs post (GN n s):=rfl
theorem lU(n:Nat){f:FuncId}{fn:Func}{c:Code}{args:List V}{post:V->Store->Prop}{rs:List ResultVar}(eP:P.follows .mixedOrders=true)(hf:P.funcs[f]? =some fn)(hN:fn.ntmps=N)
 (hb:fn.body=some c) (hn:(fn.name== "runtime.NumGoroutine")=false) (hr:fn.results.toList=rs) (hl:Nat.ble args.length N=true) (hok:codeOk N c=true)
 (h:CW P N c (Rk P n rs post) ⟨pz (args.map (V.up 1)) 0,[.seed n]::S⟩):dw P f args S post:=by
 subst hN;subst hr;exact qW hf hb hn (Nat.le_of_ble_eq_true hl) (Li n (wD (zR n) (iB eP c _ _ hok h)))
theorem aiX{row:Bool}{j n l i:Nat}{es es':List (List D)}:C.lab row j n es (.bB (1+l,i) es')=.bB (1+l,i) es':=by rw[Nat.add_comm];rfl
theorem aiY{row:Bool}{j n i:Nat}{es es':List (List D)}:C.lab row j n es (.bB (0,i) es')=if i=j/\row=false/\es'.length=es.length then .d (.ol n es) else .bB (0,i) es':=rfl
theorem aiZ{row:Bool}{j n l i:Nat}{es:List (List D)}:C.lab row j n es (.mD (1+l,i))=.mD (1+l,i):=by rw[Nat.add_comm];rfl
theorem ai0{row:Bool}{j n i:Nat}{es:List (List D)}:C.lab row j n es (.mD (0,i))=if i=j/\row=true then .d (.ol n es) else .mD (0,i):=rfl
theorem apz{row:Bool}{j n:Nat}{es:List (List D)}{x:D}:C.lab row j n es (.d x)=.d x:=rfl
theorem aly{row:Bool}{j n:Nat}{es:List (List D)}:C.lab row j n es .any=.any:=rfl
theorem alz{row:Bool}{j n:Nat}{es es':List (List D)}:C.lab row j n es (.bn es')=.bn es':=rfl
theorem alA{row:Bool}{j n m:Nat}{es es':List (List D)}:C.lab row j n es (.lZ m es')=.lZ m es':=rfl
theorem alB{row:Bool}{j n off:Nat}{es:List (List D)}{k:Key}:C.lab row j n es (.ptr k off)=.ptr k off:=rfl
theorem anx{row:Bool}{j n f:Nat}{es:List (List D)}{caps:List (Key×Nat)}:C.lab row j n es (.fn f caps)=.fn f caps:=rfl
theorem ai1{row:Bool}{j n:Nat}{es:List (List D)}{cs:List D}:C.lab row j n es (.nK cs)=.nK cs:=rfl
theorem kS{ι:Type}{ts:List Nat}{f:ι->List V}{g:ι->Store}{p:ι->Prop}{μ:ι->Nat}{i:ι}{tm:List (Nat×V)}{own:List Obj}{Ω:Store}{m:Nat}(m' n:Nat)(hnd:ts.Nodup)(j:ι)(h1:μ j<μ i)(h2:ts.map (look tm)=f j)(h3:(Obj.seed m'::own.take n)::Ω=g j)
 (hr:iR (n+1) (gV ts (f j))=true)(ho:(own.take n).all (Obj.refs (n+1))=true)(h4:p j):Inv N ts f g p μ i ⟨tm,(.seed m::own)::Ω⟩:=by
 refine⟨j,⟨gV ts (f j),(.seed m'::own.take n)::Ω⟩,h1,?_,?_,h3,h4⟩
 ·have hg:gU N ⟨tm,(.seed m::own)::Ω⟩ ⟨gV ts (f j),(.seed m::own)::Ω⟩:=by
   rw[<-h2];exact MX fun t=>yu _ ts t
  refine hg.trans ((Oo (n+1) hr ?_).trans (Ee m'));rw[List.take_succ_cons,List.all_cons,ho];rfl
 ·exact Ei ts (f j) hnd (by rw[<-h2];simp)
end
attribute [go_sem ↓] aiW Zh afw
attribute [go_sem] PE aiV acN afv V.mP Obj.mP aiX aiY aiZ ai0 apz aly alz alA alB anx ai1
section
variable {P:Program} {w w':World} {σ σ':Nat->Nat} {S:Store} {β:Hs}
def BX(w:World)(σ:Nat->Nat)(lo hi b:Nat):Prop:=∃c t fz m,w.heap[b]? =some (.cells c t fz)/\σ b=c.size+1+m/\lo<=m/\m<hi
theorem BX.mono{lo hi lo' hi' b:Nat}(h:BX w σ lo hi b)(h1:lo'<=lo)(h2:hi<=hi'):BX w σ lo' hi' b:=by
 obtain⟨c,t,fz,m,a1,a2,a3,a4⟩:=h;exact⟨c,t,fz,m,a1,a2,by omega,by omega⟩
theorem BX.apart{lo hi lo' hi' b:Nat}(h:BX w σ lo hi b)(h':BX w σ lo' hi' b)(ho:hi<=lo'):False:=by
 obtain⟨c,t,fz,m,a1,a2,a3,a4⟩:=h;obtain⟨c',t',ZY,m',b1,b2,b3,b4⟩:=h';rw[a1] at b1;cases b1;omega
abbrev Kids:=List (List (Option Value))
def UO(rows:Kids)(i o:Nat):Option Value:=((rows[i]?).bind fun r=>r[o]?).bind id
def apA(rows:Kids):Array Value:=(rows.map fun r=>Value.tuple (r.map fun u=>u.getD (.bool false)).toArray).toArray
def mkT(v:Value)(rows:Kids):Value:=.tuple #[v,.tuple (apA rows)]
def IsT(v:Value):Prop:=∃a,v=.tuple a
def aj9(w:World)(d:D)(v:Value)(u:Option Value):Prop:=
 match d with
 | .sl es=>∃T,u=some T/\IsT T/\hdr T=some v/\tJ w es T
 |d=>u=none/\SD d v
structure atw(w:World)(σ:Nat->Nat)(r:List D)(n m:Nat)(vals:Nat->Value)(us:List (Option Value)):Prop where
 len:us.length=r.length
 cell:∀(j:Nat)(d:D),r[j]? =some d->∃u,us[j]? =some u/\aj9 w d (vals j) u
 own:∀(j:Nat)(u:Value),us[j]? =some (some u)->∀b,qA u b->BX w σ n m b
 apart:∀(j j':Nat)(u u':Value)(b:Nat),j≠j'->us[j]? =some (some u)->us[j']? =some (some u')->qA u b->qA u' b->False
structure atl(w:World)(σ:Nat->Nat)(z:Nat)(rs:List (List D))(n m:Nat)(vals:Nat->Value)(U:Kids):Prop where
 cell:∀(i o:Nat)(d:D),cellAt rs i o=some d->∃u,((U[i]?).bind fun r=>r[o]?)=some u/\aj9 w d (vals (i*z+o)) u
 kid:∀(i o:Nat)(u:Value),UO U i o=some u->∃es,cellAt rs i o=some (.sl es)
 own:∀(i o:Nat)(u:Value),UO U i o=some u->∀b,qA u b->BX w σ n m b
 apart:∀(i o i' o':Nat)(u u':Value)(b:Nat),(i,o)≠(i',o')->UO U i o=some u->UO U i' o'=some u'->qA u b->qA u' b->False
end
section
variable {P:Program} {w w':World} {σ σ':Nat->Nat} {S:Store} {β:Hs}
def atm:D->List (List D)
 | .sl es=>es
 |_=>[]
def apB(k:Key)(j:Nat):D->C
 | .sl _=>.xp k j []
 |d=>.d d
def arI(k:Key):Nat->List D->List C
 |_,[]=>[]
 |j,d::ds=>apB k j d::arI k (j+1) ds
def akb:C->C
 | .d x=>.d x
 | .bn es=>.d (.sl es)
 | .bB _ es=>.d (.sl es)
 | .lZ n es=>.d (.ol n es)
 | .nK cs=>.nK cs
 |_=>.any
def atn:V->V
 | .c x=>.c (akb x)
 | .agg cs=>.agg (cs.map akb)
 |_=>.any
def asQ(mk:List C->V)(m:Nat):Prop:=∀w σ S β cs v,cs.length=m->dS w σ S β (mk cs) v->∃vs,gL w σ S β cs vs/\∀w' σ' S' β' cs',cs'.length=m->gL w' σ' S' β' cs' vs->dS w' σ' S' β' (mk cs') v
def asR:Value:=mkT (.slice none 0 0) []
end
section
variable {P:Program} {w w':World} {σ σ':Nat->Nat} {S:Store} {β:Hs}
theorem tJ.data{es:List (List D)}{T v:Value}(h:tJ w es T)(hv:hdr T=some v)(hσ:∀b c t fz,qA T b->w.heap[b]? =some (.cells c t fz)->c.size<=σ b):dJ w σ (.sl es) v:=by
 induction h generalizing v with
 |nil a cap T h hk=>rw[h] at hv;cases hv;exact .nil a cap
 |mk b off cap z es T c t vals kids hh hne hcap hlen hb hfit hc hs hk hx hself hap Cn ih=>
  rw[hh] at hv;cases hv;have hpos:0<es.length:=List.length_pos_iff.2 hne;have hfl:=j4 es z hlen
  have hidx:∀j,j<es.length*z->∃hi:j/z<es.length,j % z<z/\j/z*z+j % z=j:=fun j hj=>by
   have hz:0<z:=by rcases Nat.eq_zero_or_pos z with h|h;·rw[h] at hj;simp at hj
                   ·exact h
   exact⟨(Nat.div_lt_iff_lt_mul hz).2 hj,Nat.mod_lt _ hz,by rw[Nat.mul_comm];exact Nat.div_add_mod j z⟩
  have hcell:∀j d,es.flatten[j]? =some d->∃hi:j/z<es.length,cellAt es (j/z) (j % z)=some d/\j/z*z+j % z=j:=fun j d hd=>by
   have hj:j<es.length*z:=by rw[<-hfl];exact(List.getElem?_eq_some_iff.1 hd).1
   obtain⟨hi,hm,he⟩:=hidx j hj;refine⟨hi,?_,he⟩;have:=flat_get es z hlen (j/z) (j % z) hi hm;rw[he,hd] at this;unfold cellAt;rw[List.getElem?_eq_getElem hi];exact this.symm
  refine .sl b off cap z es (fun j=>vals (j/z) (j % z)) c t (0,0) hcap hlen hb (Nat.le_trans hfit (hσ b c t _ (.here hh hpos) hb)) (fun j hj=> ?_) (fun j d hd=> ?_)
  ·obtain⟨hi,hce,he⟩:=hcell j _ (List.getElem?_eq_getElem (by rw[hfl];exact hj));have:=hc _ _ _ hce
   rwa [he] at this
  ·obtain⟨hi,hce,he⟩:=hcell j d hd;rcases hs _ _ _ hce with⟨es',rfl⟩|hsd
   ·obtain⟨k1,k2⟩:=hk _ _ _ hce;exact ih _ _ _ hce k2 fun b' c' t' ZY ho hb'=>hσ b' c' t' ZY (.kid k1 ho) hb'
   ·exact adB hsd
end
section
variable {P:Program} {w w':World} {σ σ':Nat->Nat} {S:Store} {β:Hs}
end
section
variable {P:Program} {N:Nat} {S:Store} {s:St} {tm:List (Nat×V)}
def uf(N:Nat):Code->Bool
 | .seq x y=>uf N x&&uf N y
 | .region _ R true=>Ic R N
 | .cond _ x y=>uf N x&&uf N y
 | .block _ c=>uf N c
 | .loop _=>true
 |c=>codeOk N c
theorem uw(eP:P.follows .mixedOrders=true):∀(c:Code)(Q:Exit->St->Prop)(s:St),uf N c=true->oG P N c Q s->AW P N c Q s
 | .seq x y,Q,s,ok,h=>by
   simp only[uf,Bool.and_eq_true] at ok;refine JM (AW.mono (uw eP x _ s ok.1 h) fun e s' h'=> ?_)
   cases e with
   |normal=>exact uw eP y Q s' ok.2 h'
   |_=>exact h'
 | .region _ R true,Q,s,ok,h=>Mq eP ok h
 | .region id R false,Q,s,ok,h=>iB eP _ Q s ok h
 | .cond c x y,Q,s,ok,h=>by
   simp only[uf,Bool.and_eq_true] at ok;simp only[oG,zH] at h;split at h
   ·rename_i b hb;exact Ld hb (fun e=>uw eP x Q s ok.1 (h.1 e)) (fun e=>uw eP y Q s ok.2 (h.2 e))
   ·exact h.elim
 | .block id c,Q,s,ok,h=>H8 (uw eP c _ s ok h)
 | .exit id,Q,s,ok,h=>iB eP _ Q s ok h
 | .ret,Q,s,ok,h=>iB eP _ Q s ok h
 | .skip,Q,s,ok,h=>iB eP _ Q s ok h
 | .loop c,Q,s,ok,h=>by
   rw[oG,QX] at h;exact h
 | .rangeFunc _ _ _ _,Q,s,ok,h=>h.elim
 | .scope _,Q,s,ok,h=>h.elim
 | .label _,Q,s,ok,h=>h.elim
 | .goto _,Q,s,ok,h=>h.elim
 | .refuse _,Q,s,ok,h=>h.elim
theorem WX{ι:Type}{c:Code}{Q:Exit->St->Prop}(eP:P.follows .mixedOrders=true)(hok:uf N c=true)(ts:List Nat)(f:ι->List V)(g:ι->Store)(p:ι->Prop)(μ:ι->Nat)(i0:ι)
 (h1:ts.map (look s.tm)=f i0)(h2:s.st=g i0)(h3:p i0)
 (round:∀i,p i->oG P N c (lG (Inv N ts f g p μ i) Q) ⟨gV ts (f i),g i⟩):AW P N (.loop c) Q s:=by
 refine QI (ι:=ι) (fun i s=>∃s0,gU N s s0/\ts.map (look s0.tm)=f i/\s0.st=g i/\p i) μ i0 ⟨s,gU.refl _ _,h1,h2,h3⟩ fun i s hI=> ?_;obtain⟨s0,hg,h1,h2,h3⟩:=hI;refine ni ?_ hg
 have hr:=(uw eP c _ _ hok (round i h3)).mono (Q':=lG (fun s'=>∃j,μ j<μ i/\∃s0,gU N s' s0/\ts.map (look s0.tm)=f j/\s0.st=g j/\p j) Q) fun e s' h=>by
  cases e with
  |normal=>
   obtain⟨j,s0,a1,a2,a3,a4,a5⟩:=h;exact⟨j,a1,s0,a2,a3,a4,a5⟩
  |_=>exact h
 obtain⟨tm,st⟩:=s0;simp only at h1 h2;subst h2;rw[<-h1] at hr;exact abl hr fun t=>yu _ ts t
theorem afx{f:FuncId}{fn:Func}{c:Code}{args:List V}{post:V->Store->Prop}{rs:List ResultVar}(eP:P.follows .mixedOrders=true)(hf:P.funcs[f]? =some fn)(hN:fn.ntmps=N)
 (hb:fn.body=some c) (hn:(fn.name== "runtime.NumGoroutine")=false) (hr:fn.results.toList=rs) (hl:Nat.ble args.length N=true) (hok:uf N c=true)
 (h:oG P N c (QY P rs post) ⟨pz (args.map (V.up 1)) 0,[]::S⟩):dw P f args S post:=by
 subst hN;subst hr;exact qW hf hb hn (Nat.le_of_ble_eq_true hl) (wD zG (uw eP c _ _ hok h))
theorem acO(n:Nat){f:FuncId}{fn:Func}{c:Code}{args:List V}{post:V->Store->Prop}{rs:List ResultVar}(eP:P.follows .mixedOrders=true)(hf:P.funcs[f]? =some fn)(hN:fn.ntmps=N)
 (hb:fn.body=some c) (hn:(fn.name== "runtime.NumGoroutine")=false) (hr:fn.results.toList=rs) (hl:Nat.ble args.length N=true) (hok:uf N c=true)
 (h:oG P N c (Rk P n rs post) ⟨pz (args.map (V.up 1)) 0,[.seed n]::S⟩):dw P f args S post:=by
 subst hN;subst hr;exact qW hf hb hn (Nat.le_of_ble_eq_true hl) (Li n (wD (zR n) (uw eP c _ _ hok h)))
end
theorem acP{P:Program}{N:Nat}(n:Nat){f:FuncId}{fn:Func}{c:Code}{args:List V}{bP:List Obj}{Ω:Store}{post:V->Store->Prop}{rs:List ResultVar}(eP:P.follows .mixedOrders=true)(hf:P.funcs[f]? =some fn)(hN:fn.ntmps=N)
 (hb:fn.body=some c) (hn:(fn.name== "runtime.NumGoroutine")=false) (hr:fn.results.toList=rs) (hl:Nat.ble args.length N=true) (hok:codeOk N c=true)
 (h:CW P N c (Wo P rs post) ⟨pz (args.map (V.up 1)) 0,[.seed n]::bP::Ω⟩):dw P f args (bP::Ω) post:=by
 subst hN;subst hr;exact Sw hf hb hn (Nat.le_of_ble_eq_true hl) (Li n (iB eP c _ _ hok h))
theorem WY{P:Program}{N:Nat}{c:Code}{Q:Exit->St->Prop}{tm:List (Nat×V)}{Ω:Store}(n k:Nat)(h:AW P N c Q ⟨tm,[.seed n,.seed k]::Ω⟩):AW P N c Q ⟨tm,[]::Ω⟩:=by
 refine Li n (ni h fun a w σ β hR=> ?_);obtain⟨bo,bΩ,rfl,hlen⟩:=frames hR;obtain⟨hS',hk,hst⟩:=hR.S.push (o:=.seed k) (h:=undef) (Grow.refl hR.S.live) hlen trivial (fun b hb=>by cases hb);exact⟨σ,_,⟨hR.size,hR.defers,hS',fun u=>(hR.T u).mono (eG.refl _ _) hk⟩,hst,Keep.refl _ _⟩
section
variable {P:Program} {N:Nat} {S:Store}
theorem qQ(n k:Nat){f:FuncId}{fn:Func}{c:Code}{args:List V}{post:V->Store->Prop}{rs:List ResultVar}(eP:P.follows .mixedOrders=true)(hf:P.funcs[f]? =some fn)(hN:fn.ntmps=N)
 (hb:fn.body=some c) (hn:(fn.name== "runtime.NumGoroutine")=false) (hr:fn.results.toList=rs) (hl:Nat.ble args.length N=true) (hok:codeOk N c=true)
 (h:CW P N c (Rk P n rs post) ⟨pz (args.map (V.up 1)) 0,[.seed n,.seed k]::S⟩):dw P f args S post:=by
 subst hN;subst hr;exact qW hf hb hn (Nat.le_of_ble_eq_true hl) (WY n k (wD (zR n) (iB eP c _ _ hok h)))
end
def anz(n:Nat)(out:List UInt8):List UInt8:=if h:n=0 then out else anz (n/10) (UInt8.ofNat (48+n % 10)::out)
termination_by n
decreasing_by omega
def apC(k:Int):List UInt8:=if k<=0 then [109,48] else 109::anz k.toNat []
mutual
def mcD:D->Nat
 | .sl es=>Rl es
 | .b _=>1
 | .i _ _=>1
 | .s _=>1
 | .o _=>0
 | .ol _ _=>0
def mcR:List D->Nat
 |[]=>0
 |d::ds=>mcD d+mcR ds
def Rl:List (List D)->Nat
 |[]=>0
 |r::rs=>mcR r+Rl rs
end
mutual
def mkD:D->Int->D
 | .sl es,k=>.sl (acQ es k)
 | .b _,k=>.b (decide (k.tmod 3=0))
 | .i kd _,k=>.i kd k
 | .s _,k=>.s (apC k)
 | .o v,_=>.o v
 | .ol n es,_=>.ol n es
def mkR:List D->Int->List D
 |[],_=>[]
 |d::ds,k=>mkD d k::mkR ds (k+mcD d)
def acQ:List (List D)->Int->List (List D)
 |[],_=>[]
 |r::rs,k=>mkR r k::acQ rs (k+mcR r)
end
mutual
def nwD:D->Bool
 | .sl es=>anB es
 | .b _=>true
 | .i _ _=>true
 | .s _=>true
 | .o _=>true
 | .ol _ _=>true
def nwR:List D->Bool
 |[]=>true
 |d::ds=>nwD d&&nwR ds
def anB:List (List D)->Bool
 |[]=>true
 |r::rs=>decide (r.length<=32)&&nwR r&&anB rs
end
abbrev ato(P:Program)(f:FuncId)(es:List (List D)):Prop:=∀(k:Int)(l j r:Nat)(p:List (Nat×Nat))(S:Store)(rs:List (List (List D))),bA S (l,j)=some (.xf rs)->atR rs r p=some es->0<=k/\k+Rl es<=4611686018427387904->
 dw P f [.c (.xp (l,j) r p),.c (.d (.i .i64 k))] S (fun res S'=>res=.c (.d (.i .i64 (k+Rl es)))/\S'=bJ S (l,j) (.xf (JE rs r p (acQ es k))))
abbrev atp(P:Program)(f:FuncId)(es:List (List D)):Prop:=∀(k:Int)(l j r:Nat)(p:List (Nat×Nat))(S:Store)(rs:List (List (List D))),bA S (l,j)=some (.xf rs)->atR rs r p=some (acQ es k)->0<=k/\k+Rl es<=4611686018427387904->
 dw P f [.c (.xp (l,j) r p),.c (.d (.i .i64 k))] S (fun res S'=>res=.c (.d (.i .i64 (k+Rl es)))/\S'=S)
section
variable {P:Program} {N:Nat} {c:Code} {Q:Exit->St->Prop} {s:St} {S:Store} {l j r n:Nat} {p:List (Nat×Nat)} {rs:List (List (List D))} {rows:List (List D)} {k:Int}
abbrev atq(l j r:Nat)(p:List (Nat×Nat))(k:Int)(i:Nat):List V:=[.c (.xp (1+l,j) r p),.c (.d (.i .i64 k)),.c (.d (.i .i64 i))]
end
theorem uQ:∀(xs:List (List UInt8))(n:Nat),dX (xs.map encS) n=xs.map encS
 |[],_=>rfl
 |x::xs,n=>by rw[List.map_cons,dX,uQ xs];rfl
def lx(l:List aj)(n:Nat):List (List D):=dX (l.map aj.enc) n
def dQ(x:aj):Nat:=F3 x.enc
def iQ(l:List aj):Nat:=jf (l.map aj.enc)
theorem jJ(x:aj)(n:Nat):fQ x.enc n=[.s x.aG,.ol n (lx x.ah (n+1))]:=by
 rw[aj.aQ];simp only[fQ,tZ,uP,Nat.add_zero,lx]
theorem wR(s:List UInt8)(n:Nat):fQ (bF s).enc n=[.s s,.ol n []]:=by rw[jJ];rfl
theorem alC(x:aj):dQ x=iQ x.ah+1:=by
 unfold dQ iQ;rw[aj.aQ];simp only[F3,uP];omega
theorem jZ(s:List UInt8):dQ (bF s)=1:=by rw[alC];rfl
theorem ny(n:Nat):lx [] n=[]:=rfl
theorem jK(x:aj)(l:List aj)(n:Nat):lx (x::l) n=fQ x.enc n::lx l (n+dQ x):=rfl
theorem lV(a b:List aj)(n:Nat):lx (a++b) n=lx a n++lx b (n+iQ a):=by unfold lx iQ;rw[List.map_append,nQ]
theorem afy:iQ []=0:=rfl
theorem acR(x:aj)(l:List aj):iQ (x::l)=dQ x+iQ l:=rfl
theorem gH(l:List aj)(n:Nat):(lx l n).length=l.length:=by unfold lx;rw[kC,List.length_map]
theorem kM{l:List aj}{n:Nat}:∀r∈lx l n,r.length=2:=xA fun r hr=>by
 obtain⟨z,_,rfl⟩:=List.mem_map.1 hr;exact z.eB
theorem Rm{l:List aj}{i:Nat}(hi:i<l.length)(n:Nat):lx (l.take i) n++[fQ l[i].enc (n+iQ (l.take i))]=lx (l.take (i+1)) n:=by
 rw[List.take_succ_eq_append_getElem hi,lV];rfl
theorem AA{l:List aj}{i:Nat}(hi:i<l.length)(n:Nat):lx (l.take i) n++[[.s l[i].aG,.ol (n+iQ (l.take i)) (lx l[i].ah (n+iQ (l.take i)+1))]]=lx (l.take (i+1)) n:=by
 rw[<-Rm hi,jJ]
theorem AB{base l:List aj}{i:Nat}(hi:i<l.length)(q:Nat):lx (base++l.take i) q++[[.s l[i].aG,.ol (q+iQ (base++l.take i)) (lx l[i].ah (q+iQ (base++l.take i)+1))]]=lx (base++l.take (i+1)) q:=by
 rw[List.take_succ_eq_append_getElem hi,<-List.append_assoc,lV (base++l.take i),jK,ny,jJ]
theorem gJ{l:List aj}:∀r∈l.map aj.enc,r.length=2:=fun r hr=>by
 obtain⟨z,_,rfl⟩:=List.mem_map.1 hr;exact z.eB
theorem F4{cs cs':List C}(hl:cs'.length=cs.length)(h:∀(j:Nat)(x y:C),cs[j]? =some x->cs'[j]? =some y->∀w σ S β v,lC w σ S β x v->lC w σ S β y v):Less (.agg cs) (.agg cs'):=by
 rintro w σ S β v ⟨a,ha,hc⟩;refine⟨a,ha,hl.trans hc.1,fun j y hy=> ?_⟩
 have hj:j<cs.length:=by rw[<-hl];exact(List.getElem?_eq_some_iff.1 hy).1
 obtain⟨v,h1,h2,h3⟩:=hc.2 j _ (List.getElem?_eq_getElem hj);exact⟨v,h1,h j _ y (List.getElem?_eq_getElem hj) hy w σ S β v h2,h3⟩
theorem anC{w:World}{σ:Nat->Nat}{S:Store}{β:Hs}{v:Value}(n:Nat)(h:lC w σ S β (.bn []) v):lC w σ S β (.d (.ol n [])) v:=by
 obtain⟨hd,ad,m,hval⟩:=h
 have hm:m=0:=by rw[hval] at hd;cases hd<;>rfl
 subst hm;rw[hval];exact .x9 _ _ _
theorem LK(s:List UInt8)(n:Nat):Less (.agg [.d (.s s),.bn []]) (.agg [.d (.s s),.d (.ol n [])]):=F4 rfl fun j x y hx hy w σ S β v hv=>by
 match j,hx,hy with
 |0,hx,hy=>cases hx;cases hy;exact hv
 |1,hx,hy=>cases hx;cases hy;exact anC _ hv
 |j+2,hx,hy=>simp at hx
theorem alD(s:List UInt8)(n:Nat)(es:List (List D)):Less (.agg [.d (.s s),.lZ n es]) (.agg [.d (.s s),.d (.ol n es)]):=F4 rfl fun j x y hx hy w σ S β v hv=>by
 match j,hx,hy with
 |0,hx,hy=>cases hx;cases hy;exact hv
 |1,hx,hy=>cases hx;cases hy;exact hv.1
 |j+2,hx,hy=>simp at hx
theorem Zi(s:List UInt8):aC prog 65 [.c (.d (.s s))] (.agg [.d (.s s),.bn []]):=fun S=>by
 refine zcx [.cell 2 64] func65 ntmps65 ?_;exact Z1
theorem cO(s:List UInt8)(n:Nat):aC prog 65 [.c (.d (.s s))] (.agg [.d (.s s),.d (.ol n [])]):=aC.less (Zi s) (LK s n)
theorem lq(d:D):aC prog 72 [.c (.d d)] (.agg [.d (.s []),.d d]):=fun S=>by
 refine zcx [.cell 2 64] func72 ntmps72 ?_;exact Z1
theorem Zj(n:Nat)(es:List (List D)):aC prog 72 [.c (.lZ n es)] (.agg [.d (.s []),.lZ n es]):=fun S=>by
 refine zcx [.cell 2 64] func72 ntmps72 ?_;exact Z1
theorem nR(n:Nat)(es:List (List D)):aC prog 72 [.c (.lZ n es)] (.agg [.d (.s []),.d (.ol n es)]):=aC.less (Zj n es) (alD [] n es)
theorem kg(l j:Nat)(es:List (List D))(S:Store):dw prog 72 [.c (.bB (l,j) es)] S (fun r S'=>r=.agg [.d (.s []),.bB (l,j) es]/\S'=S):=by
 refine zcx [.cell 2 64] func72 ntmps72 ?_;exact Z1
theorem Cy(xs:List (List UInt8))(hx:xs.length<=1073741824)(n q:Nat):aC prog 125 [.c (.d (.sl (xs.map encS)))] (.c (.d (.ol n (lx (aP xs) q)))):=fun S=>by
 refine lU (n) (rs:=[.tmp 2]) zmx func125 ntmps125 rfl rfl rfl rfl rfl ?_;refine W1 ?_;refine W3 ?_;refine lD n 3 2 [] (.inl rfl) (by simp) ?_
 refine aR (ι:=Nat) zmx rfl [3,7,8,9] (fun i=>[.c (.bB (0,1) (lx ((aP xs).take i) q)),.c (.d (.sl (xs.map encS))),.c (.d (.i .i64 xs.length)),.c (.d (.i .i64 i))]) (fun i=>[.seed n,.eu n 2 (lx ((aP xs).take i) q)]::S)
  (fun i=>i<=xs.length) (fun i=>xs.length-i) 0 rfl rfl (Nat.zero_le _) ?_
 intro i hi;refine W1 ?_;refine S0 (fun hb h=>?_) fun hb h=>?_
 ·have hi':i<xs.length:=by omega
  have hw:i<(aP xs).length:=by rw[jA];exact hi'
  have hg:(aP xs)[i]=bF xs[i]:=by simp[aP]
  have hl:(lx ((aP xs).take i) q).length<=i:=by rw[gH];exact List.length_take_le _ _
  refine W3 ?_;refine C1 (cO xs[i] (q+iQ ((aP xs).take i))) ?_;refine W3 ?_;have hs:=Rm hw q;rw[hg,wR] at hs;rw[hs];exact bV (i+1) (by omega) rfl rfl (by omega)
 ·have hi':i=(aP xs).length:=by rw[jA];omega
  rw[hi',List.take_length]
theorem dY(xs:List (List UInt8))(hx:xs.length<=1073741824)(n:Nat):aC prog 66 [.c (.d (.sl (xs.map encS)))] (.agg [.d (.s []),.d (.ol n (lx (aP xs) (n+1)))]):=fun S=>by
 refine zcx [.cell 2 64] func66 ntmps66 ?_;refine W1 ?_;refine C1 (Cy xs hx n (n+1)) ?_;exact C3 (lq _)
theorem IU:∀N:Nat,(∀x:ak,SizeOf.sizeOf x<N->∀n:Nat,formed x=true->x.sz<=4194304->aC prog 127 [x.v] (.agg [.d (.s (bZ x).aG),.d (.ol n (lx (bZ x).ah (n+1)))]))/\
 (∀xs:List ak,SizeOf.sizeOf xs<N->∀n q:Nat,jg xs=true->xs.length<=4194304->(∀t∈xs,t.sz<=4194304)->aC prog 126 [.c (.d (.sl (xs.map ak.enc)))] (.c (.d (.ol n (lx (xs.map bZ) q)))))
 |0=>⟨fun x h=>by omega,fun x h=>by omega⟩
 |N+1=>by
  obtain⟨ih,qj⟩:=IU N;refine⟨fun x hn n hf hsz=> ?_,fun xs hn n q hf hlen hsz=> ?_⟩
  ·have kG:=ak.jv x;have hts:=Fg hsz;have hx:=afg x;rw[yO,Bool.and_eq_true] at hf;have hfi:=gq hf.1
   have hall:∀t∈x.fArgs,t.sz<=4194304:=fun t ht=>by
    obtain⟨i,hi,e⟩:=List.getElem_of_mem ht;rw[<-e];exact(wG hi hsz).1
   intro S;refine qQ (n) 1 (rs:=[.cell 2 64]) zmx func127 ntmps127 rfl rfl rfl rfl rfl ?_;refine W1 ?_;refine S0 (fun hb h=>?_) fun hb h=>?_
   ·rw[if_pos h] at hx;rw[hx];refine W3 ?_;refine C1 (cO _ n) ?_;rfl
   have k1:=h;rw[if_neg h] at hx;refine S0 (fun hb h=>?_) fun hb h=>?_
   ·rw[if_pos h] at hx;rw[hx];refine C1 (cO _ (n+1)) ?_;refine C1 (cO _ (n+1+1)) ?_;refine C1 (nR _ _) ?_;rfl
   have k4:=h;rw[if_neg h] at hx;refine S0 (fun hb h=>?_) fun hb h=>?_
   ·have hlen:x.fArgs.length=1:=by omega
    obtain⟨a,ha⟩:=List.length_eq_one_iff.1 hlen
    have ha0:x.fArgs[0]'(by omega)=a:=by simp[ha]
    rw[if_neg (by omega),if_pos h,ha] at hx;have hfa:formed a=true:=xS.1 hf.2 a (by rw[ha];simp);have hsa:a.sz<=4194304:=hall a (by rw[ha];simp)
    have hla:SizeOf.sizeOf a<N:=by
     have:=List.sizeOf_lt_of_mem (show a∈x.fArgs by rw[ha];simp);omega
    rw[hx];refine C1 (cO _ (n+1)) ?_;refine aX (cO _ (n+1+1)) ?_;simp -implicitDefEqProofs (disch:=omega) only[go_sem,ha,List.getD_cons_zero];refine W3 ?_;refine C1 (ih a hla (n+1+1+1) hfa hsa) ?_;refine C1 (nR _ _) ?_;simp only[dW,bY,List.cons_append,List.nil_append,List.map_cons,List.map_nil,jK,ny,wR,jZ,jJ,kX,kY,iW]
   have k3:=h;refine S0 (fun hb h=>?_) fun hb h=>?_
   ·rw[if_pos ⟨by omega,by omega⟩] at hx;rw[hx];refine C1 (cO _ n) ?_;rfl
   rw[if_neg (by omega),if_neg k3] at hx;rw[hx];refine C1 (cO _ (n+1)) ?_;refine C1 (qj x.fArgs (by omega) 0 (n+1+1) hf.2 hts.1 hall) ?_
   have hl:(lx (x.fArgs.map bZ) (n+1+1)).length=x.fArgs.length:=by rw[gH,List.length_map]
   have hr:=kM (l:=x.fArgs.map bZ) (n:=n+1+1);refine W3 ?_;refine C1 (lq _) ?_;simp only[dW,bY,List.cons_append,List.nil_append,jK,ny,wR,jZ]
  ·have Dt:=fun(i:Nat) (hi:i<xs.length)=>AA (l:=xs.map bZ) (i:=i) (by rw[List.length_map];exact hi) q;intro S;refine lU (n) (rs:=[.tmp 2]) zmx func126 ntmps126 rfl rfl rfl rfl rfl ?_;refine W1 ?_;refine W3 ?_;refine lD n 3 2 [] (.inl rfl) (by simp) ?_
   refine aR (ι:=Nat) zmx rfl [3,7,8,9] (fun i=>[.c (.bB (0,1) (lx ((xs.map bZ).take i) q)),.c (.d (.sl (xs.map ak.enc))),.c (.d (.i .i64 xs.length)),.c (.d (.i .i64 i))]) (fun i=>[.seed n,.eu n 2 (lx ((xs.map bZ).take i) q)]::S)
    (fun i=>i<=xs.length) (fun i=>xs.length-i) 0 rfl rfl (Nat.zero_le _) ?_
   intro i hi;refine W1 ?_;refine S0 (fun hb h=>?_) fun hb h=>?_
   ·have hi':i<xs.length:=by omega
    have hs:=Dt i hi';rw[List.getElem_map] at hs
    have hl:(lx ((xs.map bZ).take i) q).length<=i:=by rw[gH];exact List.length_take_le _ _
    refine W3 ?_;refine C1 (ih xs[i] (by have:=List.sizeOf_lt_of_mem (List.getElem_mem hi');omega) (q+iQ ((xs.map bZ).take i)) (xS.1 hf _ (List.getElem_mem hi')) (hsz _ (List.getElem_mem hi'))) ?_;refine W3 ?_;rw[hs];exact bL 2 (by decide) (i+1) (by omega) rfl rfl rfl rfl (by omega)
   ·have hi':i=(xs.map bZ).length:=by rw[List.length_map];omega
    rw[hi',List.take_length]
theorem lY(x:ak)(n:Nat)(hf:formed x=true)(hsz:x.sz<=4194304):aC prog 127 [x.v] (.agg [.d (.s (bZ x).aG),.d (.ol n (lx (bZ x).ah (n+1)))]):=(IU _).1 x (Nat.lt_succ_self _) n hf hsz
theorem Br(xs:List ak)(n q:Nat)(hf:jg xs=true)(hlen:xs.length<=4194304)(hsz:∀t∈xs,t.sz<=4194304):aC prog 126 [.c (.d (.sl (xs.map ak.enc)))] (.c (.d (.ol n (lx (xs.map bZ) q)))):=(IU _).2 xs (Nat.lt_succ_self _) n q hf hlen hsz
theorem fB(s:List UInt8):(bF s).enc=[.s s,.sl []]:=by rw[aj.aQ];rfl
theorem jE(l:List aj):(bq l).enc=[.s [],.sl (l.map aj.enc)]:=by rw[aj.aQ];rfl
theorem ji{base l:List aj}{i:Nat}(hi:i<l.length):(base++l.take i).map aj.enc++[[.s l[i].aG,.sl (l[i].ah.map aj.enc)]]=(base++l.take (i+1)).map aj.enc:=by
 rw[List.take_succ_eq_append_getElem hi,<-List.append_assoc,List.map_append (l₂:=[l[i]]),List.map_cons,List.map_nil,aj.aQ]
theorem AJ(s:List UInt8)(es:List (List D)):Less (.agg [.d (.s s),.bn es]) (.agg [.d (.s s),.d (.sl es)]):=F4 rfl fun j x y hx hy w σ S β v hv=>by
 match j,hx,hy with
 |0,hx,hy=>cases hx;cases hy;exact hv
 |1,hx,hy=>cases hx;cases hy;exact hv.1
 |j+2,hx,hy=>simp at hx
theorem yX(x:aj)(n:Nat):Less (.agg [.d (.s x.aG),.d (.ol n (lx x.ah (n+1)))]) x.v:=by
 have h:=IQ (r:=x.enc) (n:=n);rw[jJ,aj.M5] at h;exact h
theorem WZ(s:List UInt8):aC prog 79 [.c (.d (.s s))] (.agg [.d (.s s),.bn []]):=fun S=>by
 refine zcx [.cell 2 64] func79 ntmps79 ?_;exact Z1
theorem bN(s:List UInt8):aC prog 79 [.c (.d (.s s))] (.agg [.d (.s s),.d (.sl [])]):=aC.less (WZ s) (AJ s [])
theorem nI(es:List (List D))(hes:∀e∈es,e.length=2)(hl:es.length<=1073741824):aC prog 78 [.c (.d (.sl es))] (.agg [.d (.s []),.d (.sl es)]):=fun S=>by
 refine zcx [.cell 2 64] func78 ntmps78 ?_;refine W1 ?_;exact⟨hes,⟨_,rfl,rfl⟩,(fun y hy=>by cases hy),hl⟩
theorem jR(es:List (List D))(hes:∀e∈es,e.length=2)(hl:es.length<=1073741824)(bP:List Ab.Obj)(Ω:Store):dw prog 78 [.c (.d (.sl es))] (bP::Ω)
 (fun r S'=>r=.agg [.d (.s []),.bB (0,bP.length+1) es]/\S'=(bP++[.box [.d (.s []),.bB (0,bP.length+1) es],.tok 2 es])::Ω):=by
 refine J9 (rs:=[.cell 2 64]) zmx func78 ntmps78 rfl rfl rfl rfl rfl ?_;refine W1 ?_;exact⟨hes,⟨_,rfl,rfl⟩,(fun y hy=>by cases hy),hl⟩
theorem Kz(xs:List (List UInt8))(hx:xs.length<=1073741824):aC prog 133 [.c (.d (.sl (xs.map encS)))] (.c (.d (.sl ((aP xs).map aj.enc)))):=fun S=>by
 refine zcx [.tmp 2] func133 ntmps133 ?_;refine W1 ?_;refine W3 ?_;refine lQ 3 2 [] rfl (by simp) ?_
 refine aR (ι:=Nat) zmx rfl [0,3,4] (fun i=>[.c (.d (.sl (xs.map encS))),.c (.bB (0,0) (((aP xs).take i).map aj.enc)),.c (.d (.i .i64 i))]) (fun i=>[.tok 2 (((aP xs).take i).map aj.enc)]::S)
  (fun i=>i<=xs.length) (fun i=>xs.length-i) 0 rfl rfl (Nat.zero_le _) ?_
 intro i hi
 have hl:(((aP xs).take i).map aj.enc).length<=i:=by rw[List.length_map];exact List.length_take_le _ _
 refine W1 ?_;refine S0 (fun hb h=>?_) fun hb h=>?_
 ·have hi':i<xs.length:=by omega
  have hs:=ji (base:=[]) (l:=aP xs) (i:=i) (by rw[jA];exact hi')
  have hg:(aP xs)[i]'(by rw[jA];exact hi')=bF xs[i]:=by simp[aP]
  rw[hg] at hs;simp only[List.nil_append,kX,kY,List.map_nil] at hs;refine W3 ?_;refine C1 (bN xs[i]) ?_;refine W3 ?_;rw[hs];exact bV (i+1) (by omega) rfl rfl (by omega)
 ·have hi':i=(aP xs).length:=by rw[jA];omega
  rw[hi',List.take_length]
theorem dU(xs:List (List UInt8))(hx:xs.length<=1073741824):aC prog 80 [.c (.d (.sl (xs.map encS)))] (.agg [.d (.s []),.d (.sl ((aP xs).map aj.enc))]):=fun S=>by
 refine zcx [.cell 2 64] func80 ntmps80 ?_;refine W1 ?_;exact C3 (Kz xs hx)
theorem PG:∀N:Nat,(∀x:ak,SizeOf.sizeOf x<N->x.sz<=4194304->aC prog 136 [x.v] (.agg [.d (.s (bZ x).aG),.d (.sl ((bZ x).ah.map aj.enc))]))
 |0=>fun x h=>by omega
 |N+1=>by
  have ih:=PG N;intro x hn hsz;have kG:=ak.jv x;have hts:=Fg hsz;have hx:=afg x
  have hall:∀t∈x.fArgs,t.sz<=4194304:=fun t ht=>by
   obtain⟨i,hi,e⟩:=List.getElem_of_mem ht;rw[<-e];exact(wG hi hsz).1
  intro S;refine zcx [.cell 2 64] func136 ntmps136 ?_;refine W1 ?_;refine S0 (fun hb h=>?_) fun hb h=>?_
  ·rw[if_pos h] at hx;rw[hx];refine W3 ?_;refine C1 (bN _) ?_;rfl
  rw[if_neg h] at hx;refine S0 (fun hb h=>?_) fun hb h=>?_
  ·rw[if_pos h] at hx;rw[hx];refine C1 (bN _) ?_;refine C1 (bN _) ?_;refine C1 (nI _ (by simp) (by simp)) ?_;simp only[dW,bY,List.map_cons,List.map_nil,fB,IE]
  rw[if_neg h] at hx
  have arJ:x.aM=2->x.fArgs.length=0->bZ x=bF x.fName:=fun a b=>by rw[hx,if_pos ⟨a,b⟩]
  have ai2:¬(x.aM=2/\x.fArgs.length=0)->bZ x=bq ((if x.aM=3 then [bF iW] else [])++[bF x.fName]++x.fArgs.map bZ):=fun a=>by rw[hx,if_neg a]
  clear hx
  repeat' (first|(refine S0 (fun hb h=>?_) fun hb h=>?_))
  ·rw[arJ (by omega) (by omega)];refine C1 (bN _) ?_;rfl
  ·exfalso;omega
  ·have hx:=ai2 (by omega);rw[if_neg h,List.nil_append] at hx;refine C1 (bN _) ?_;refine W3 ?_
   refine aR (ι:=Nat) zmx rfl [1,2,3,4] (fun i=>[.c (.ptr (0,0) 0),.c (.ptr (0,1) 0),.c (.ptr (0,2) 0),.c (.d (.i .i64 i))])
    (fun i=>[.box [.d (.i .i64 x.aM),.d (.s x.fName),.d (.sl (x.fArgs.map ak.enc))],.box [.d (.s []),.bn []],.box [.d (.s []),.bB (0,3) (([bF x.fName]++(x.fArgs.map bZ).take i).map aj.enc)],.tok 2 (([bF x.fName]++(x.fArgs.map bZ).take i).map aj.enc)]::S)
    (fun i=>i<=x.fArgs.length) (fun i=>x.fArgs.length-i) 0 rfl ?_ (Nat.zero_le _) ?_
   ·simp only[List.take_zero,List.append_nil,List.map_cons,List.map_nil,List.cons_append,List.nil_append,fB]<;>(try rfl)
   intro i hi
   have hl:(([bF x.fName]++(x.fArgs.map bZ).take i).map aj.enc).length<=i+2:=by
    rw[List.length_map,List.length_append];have:=List.length_take_le i (x.fArgs.map bZ);simp only[List.length_cons,List.length_nil];omega
   have hs:=fun hi=>ji (base:=[bF x.fName]) (l:=x.fArgs.map bZ) (i:=i) hi;have hrw:=gJ (l:=[bF x.fName]++(x.fArgs.map bZ).take i);generalize hR:([bF x.fName]++(x.fArgs.map bZ).take i).map aj.enc=R at hl hs hrw;refine W1 ?_;refine S0 (fun hb h=>?_) fun hb h=>?_
   ·have hi':i<x.fArgs.length:=by omega
    have hs':=hs (by rw[List.length_map];exact hi');rw[List.getElem_map] at hs';refine W3 ?_;refine C1 (ih x.fArgs[i] (by have:=List.sizeOf_lt_of_mem (List.getElem_mem hi');omega) (hall _ (List.getElem_mem hi'))) ?_;refine W3 ?_;rw[hs'];exact bV (i+1) (by omega) rfl rfl (by omega)
   ·have hi':i=(x.fArgs.map bZ).length:=by rw[List.length_map];omega
    rw[hx,<-hR,hi',List.take_length];simp only[dW,bY,List.cons_append,List.nil_append]
  ·have hx:=ai2 (by omega);rw[if_pos h] at hx;refine C1 (bN _) ?_;refine W3 ?_;refine C1 (bN _) ?_;refine W3 ?_
   refine aR (ι:=Nat) zmx rfl [1,2,3,4] (fun i=>[.c (.ptr (0,0) 0),.c (.ptr (0,1) 0),.c (.ptr (0,2) 0),.c (.d (.i .i64 i))])
    (fun i=>[.box [.d (.i .i64 x.aM),.d (.s x.fName),.d (.sl (x.fArgs.map ak.enc))],.box [.d (.s []),.bn []],.box [.d (.s []),.bB (0,3) (([bF iW,bF x.fName]++(x.fArgs.map bZ).take i).map aj.enc)],.tok 2 (([bF iW,bF x.fName]++(x.fArgs.map bZ).take i).map aj.enc)]::S)
    (fun i=>i<=x.fArgs.length) (fun i=>x.fArgs.length-i) 0 rfl ?_ (Nat.zero_le _) ?_
   ·simp only[List.take_zero,List.append_nil,List.map_cons,List.map_nil,List.cons_append,List.nil_append,fB]<;>(try rfl)
   intro i hi
   have hl:(([bF iW,bF x.fName]++(x.fArgs.map bZ).take i).map aj.enc).length<=i+2:=by
    rw[List.length_map,List.length_append];have:=List.length_take_le i (x.fArgs.map bZ);simp only[List.length_cons,List.length_nil];omega
   have hs:=fun hi=>ji (base:=[bF iW,bF x.fName]) (l:=x.fArgs.map bZ) (i:=i) hi;have hrw:=gJ (l:=[bF iW,bF x.fName]++(x.fArgs.map bZ).take i);generalize hR:([bF iW,bF x.fName]++(x.fArgs.map bZ).take i).map aj.enc=R at hl hs hrw;refine W1 ?_;refine S0 (fun hb h=>?_) fun hb h=>?_
   ·have hi':i<x.fArgs.length:=by omega
    have hs':=hs (by rw[List.length_map];exact hi');rw[List.getElem_map] at hs';refine W3 ?_;refine C1 (ih x.fArgs[i] (by have:=List.sizeOf_lt_of_mem (List.getElem_mem hi');omega) (hall _ (List.getElem_mem hi'))) ?_;refine W3 ?_;rw[hs'];exact bV (i+1) (by omega) rfl rfl (by omega)
   ·have hi':i=(x.fArgs.map bZ).length:=by rw[List.length_map];omega
    rw[hx,<-hR,hi',List.take_length];simp only[dW,bY,List.cons_append,List.nil_append]
  ·have hx:=ai2 (by omega);rw[if_neg h,List.nil_append] at hx;refine C1 (bN _) ?_;refine W3 ?_
   refine aR (ι:=Nat) zmx rfl [1,2,3,4] (fun i=>[.c (.ptr (0,0) 0),.c (.ptr (0,1) 0),.c (.ptr (0,2) 0),.c (.d (.i .i64 i))])
    (fun i=>[.box [.d (.i .i64 x.aM),.d (.s x.fName),.d (.sl (x.fArgs.map ak.enc))],.box [.d (.s []),.bn []],.box [.d (.s []),.bB (0,3) (([bF x.fName]++(x.fArgs.map bZ).take i).map aj.enc)],.tok 2 (([bF x.fName]++(x.fArgs.map bZ).take i).map aj.enc)]::S)
    (fun i=>i<=x.fArgs.length) (fun i=>x.fArgs.length-i) 0 rfl ?_ (Nat.zero_le _) ?_
   ·simp only[List.take_zero,List.append_nil,List.map_cons,List.map_nil,List.cons_append,List.nil_append,fB]<;>(try rfl)
   intro i hi
   have hl:(([bF x.fName]++(x.fArgs.map bZ).take i).map aj.enc).length<=i+2:=by
    rw[List.length_map,List.length_append];have:=List.length_take_le i (x.fArgs.map bZ);simp only[List.length_cons,List.length_nil];omega
   have hs:=fun hi=>ji (base:=[bF x.fName]) (l:=x.fArgs.map bZ) (i:=i) hi;have hrw:=gJ (l:=[bF x.fName]++(x.fArgs.map bZ).take i);generalize hR:([bF x.fName]++(x.fArgs.map bZ).take i).map aj.enc=R at hl hs hrw;refine W1 ?_;refine S0 (fun hb h=>?_) fun hb h=>?_
   ·have hi':i<x.fArgs.length:=by omega
    have hs':=hs (by rw[List.length_map];exact hi');rw[List.getElem_map] at hs';refine W3 ?_;refine C1 (ih x.fArgs[i] (by have:=List.sizeOf_lt_of_mem (List.getElem_mem hi');omega) (hall _ (List.getElem_mem hi'))) ?_;refine W3 ?_;rw[hs'];exact bV (i+1) (by omega) rfl rfl (by omega)
   ·have hi':i=(x.fArgs.map bZ).length:=by rw[List.length_map];omega
    rw[hx,<-hR,hi',List.take_length];simp only[dW,bY,List.cons_append,List.nil_append]
theorem mG(x:ak)(hsz:x.sz<=4194304):aC prog 136 [x.v] (.agg [.d (.s (bZ x).aG),.d (.sl ((bZ x).ah.map aj.enc))]):=PG _ x (Nat.lt_succ_self _) hsz
theorem Du(xs:List ak)(hlen:xs.length<=4194304)(hsz:∀t∈xs,t.sz<=4194304):aC prog 135 [.c (.d (.sl (xs.map ak.enc)))] (.c (.d (.sl ((xs.map bZ).map aj.enc)))):=fun S=>by
 refine zcx [.tmp 2] func135 ntmps135 ?_;refine W1 ?_;refine W3 ?_;refine lQ 3 2 [] rfl (by simp) ?_
 refine aR (ι:=Nat) zmx rfl [0,3,4] (fun i=>[.c (.d (.sl (xs.map ak.enc))),.c (.bB (0,0) (((xs.map bZ).take i).map aj.enc)),.c (.d (.i .i64 i))]) (fun i=>[.tok 2 (((xs.map bZ).take i).map aj.enc)]::S)
  (fun i=>i<=xs.length) (fun i=>xs.length-i) 0 rfl rfl (Nat.zero_le _) ?_
 intro i hi
 have hl:(((xs.map bZ).take i).map aj.enc).length<=i:=by rw[List.length_map];exact List.length_take_le _ _
 refine W1 ?_;refine S0 (fun hb h=>?_) fun hb h=>?_
 ·have hi':i<xs.length:=by omega
  have hs:=ji (base:=[]) (l:=xs.map bZ) (i:=i) (by rw[List.length_map];exact hi');rw[List.getElem_map] at hs;simp only[List.nil_append] at hs;refine W3 ?_;refine C1 (mG xs[i] (hsz _ (List.getElem_mem hi'))) ?_;refine W3 ?_;rw[hs];exact bV (i+1) (by omega) rfl rfl (by omega)
 ·have hi':i=(xs.map bZ).length:=by rw[List.length_map];omega
  rw[hi',List.take_length]
theorem q8(b:Bool)(x:aj)(hsz:x.sz<=67108864):aC prog 85 [.c (.d (.b b)),x.v] (qM b x).v:=by
 have zero:aC prog 85 [.c (.d (.b b)),x.v] (.agg [.d (.s []),.bn []])->aC prog 85 [.c (.d (.b b)),x.v] bT.v:=fun h=>aC.less h (AJ [] [])
 cases b with
 |false=>
  refine zero fun S=> ?_;refine zcx [.cell 4 64] func85 ntmps85 ?_;exact Z1
 |true=>
  show aC prog 85 [.c (.d (.b true)),x.v] (sI x).v;unfold sI
  cases hv:dI x with
  |false=>
   refine zero fun S=> ?_;refine zcx [.cell 4 64] func85 ntmps85 ?_;refine W1 ?_;refine aX (ng x hsz) ?_;simp -implicitDefEqProofs (disch:=omega) only[go_sem,hv]
  |true=>
   intro S;refine zcx [.cell 4 64] func85 ntmps85 ?_;refine W1 ?_;refine aX (ng x hsz) ?_;simp -implicitDefEqProofs (disch:=omega) only[go_sem,hv]
theorem acS(x:aj)(n:Nat)(hsz:x.sz<=67108864):aC prog 71 [.agg [.d (.s x.aG),.d (.ol n (lx x.ah (n+1)))]] (.agg [.d (.s (sI x).aG),.d (.ol n (lx (sI x).ah (n+1)))]):=by
 unfold sI
 cases hv:dI x with
 |false=>
  refine aC.less (fun S=> ?_) (LK [] n);refine zcx [.cell 2 64] func71 ntmps71 ?_;refine W1 ?_;refine jY (qB x hsz) (.cons (yX x n) .nil) ?_;simp -implicitDefEqProofs (disch:=omega) only[go_sem,hv]
 |true=>
  intro S;refine zcx [.cell 2 64] func71 ntmps71 ?_;refine W1 ?_;refine jY (qB x hsz) (.cons (yX x n) .nil) ?_;simp -implicitDefEqProofs (disch:=omega) only[go_sem,hv]
theorem aU.bounds{x:aU}(h:x.sz<=4194304):x.fName.length<=4194304/\x.aF.length<=4194304/\x.aD.length<=4194304/\∀s∈x.aF,s.length<=4194304:=by
 simp only[aU.sz,aU.aQ,dz,bW,D.sz,List.length_map] at h;refine⟨by omega,by omega,by omega,fun s hs=> ?_⟩;have:=sD hs;omega
theorem aU.UQ{x:aU}{i:Nat}(hi:i<x.aD.length)(h:x.sz<=4194304):x.aD[i].sz<=4194304:=by
 have hx:x.aD[i].sz<=bf (x.aD.map bC.enc):=cB (List.mem_map_of_mem (List.getElem_mem hi));simp only[aU.sz,aU.aQ,dz,bW,D.sz,List.length_map] at h;omega
theorem bC.bounds{x:bC}(h:x.sz<=4194304):x.fName.length<=4194304/\x.iA.length<=4194304/\∀t∈x.iA,t.sz<=4194304:=by
 simp only[bC.sz,bC.aQ,dz,bW,D.sz,List.length_map] at h;refine⟨by omega,by omega,fun t ht=> ?_⟩;have hx:t.sz<=bf (x.iA.map ak.enc):=cB (List.mem_map_of_mem ht);omega
noncomputable def p9(vars:List (List UInt8))(c:bC):Bool:=dec (c.iA.length<=4)&&mF vars c.iA
noncomputable def mH(d:aU):List (List UInt8):=d.aD.map bC.fName
noncomputable def fD(d:aU):Bool:=
 validName d.fName&&(dec (d.aF.length<=3)&&(iN d.aF&&(dec (1<=d.aD.length)&&(dec (d.aD.length<=5)&&(d.aD.all (p9 d.aF)&&iN (mH d))))))
theorem Ez(d:aU)(hsz:d.sz<=4194304):aC prog 138 [d.v] (.c (.d (.b (fD d)))):=fun S=>by
 have hb0:=aU.bounds hsz
 have bad:∀i,∀hi:i<d.aD.length,p9 d.aF d.aD[i]=false->fD d=false:=fun i hi h=>by
  have:d.aD.all (p9 d.aF)=false:=Bool.eq_false_iff.2 fun hx=>by
   rw[List.all_eq_true.1 hx _ (List.getElem_mem hi)] at h;cases h
  unfold fD
  rw[this];simp
 refine zcx [.tmp 2] func138 ntmps138 ?_;refine W1 ?_;refine W3 ?_;refine lQ 3 1 [] rfl (by simp) ?_
 refine aR (ι:=Nat×List (List UInt8)) zmx rfl [1,3,4] (fun y=>[.c (.ptr (0,0) 0),.c (.bB (0,1) (y.2.map encS)),.c (.d (.i .i64 y.1))]) (fun y=>[.box (d.enc.map .d),.tok 1 (y.2.map encS)]::S)
  (fun y=>y.1<=d.aD.length/\y.2=(mH d).take y.1/\∀j,∀hj:j<d.aD.length,j<y.1->p9 d.aF d.aD[j]=true) (fun y=>d.aD.length-y.1) (0,[]) rfl ?_ ⟨Nat.zero_le _,rfl,fun j _ h=>by simp only at h;omega⟩ ?_
 ·exact Z1
 rintro⟨i,names⟩ ⟨p1,p2,p3⟩;simp only at p1 p2 p3
 have pl:names.length<=d.aD.length:=by rw[p2];simp[mH];omega
 refine W1 ?_;refine S0 (fun hb h=>?_) fun hb h=>?_
 ·have hi:i<d.aD.length:=by omega
  have hc:=bC.bounds (aU.UQ hi hsz);refine W3 ?_;refine S0 (fun hb h=>?_) fun hb h=>?_
  ·rw[bad i hi (by unfold p9;rw[aK (by omega)];rfl)]
  have h1:=h;refine W3 ?_;refine C2 (Sv d.aD[i].iA d.aF (by omega) hc.2.2 (by omega)) ?_;refine S0 (fun hb h=>?_) fun hb h=>?_
  ·rw[bad i hi (by unfold p9;rw[h];simp)]
  have h2:=h;refine W3 ?_;rw[show List.map encS names++[[D.s d.aD[i].fName]]=List.map encS (names++[d.aD[i].fName]) by simp[encS]]
  exact bV (i+1,names++[d.aD[i].fName]) (by simp only;omega) rfl rfl ⟨by simp only;omega,by simp only;rw[p2,iU (by simpa [mH] using hi)];simp[mH],fun j hj hji=>by
   simp only at hji;by_cases e:j=i
   ·subst e;unfold p9;rw[h2,bD (by omega)];rfl
   ·exact p3 j hj (by omega)⟩
 have hi:i=d.aD.length:=by omega
 have hn:names=mH d:=by rw[p2,List.take_of_length_le (by simp[mH];omega)]
 have hall:d.aD.all (p9 d.aF)=true:=List.all_eq_true.2 fun c hc=>by
  obtain⟨j,hj,e⟩:=List.getElem_of_mem hc;rw[<-e];exact p3 j hj (by omega)
 have hnl:∀s∈names,s.length<=4194304:=fun s hs=>by
  rw[hn] at hs;obtain⟨c,hc,e⟩:=List.mem_map.1 hs;obtain⟨j,hj,e'⟩:=List.getElem_of_mem hc;rw[<-e,<-e'];exact(bC.bounds (aU.UQ hj hsz)).1
 have hlen:names.length=d.aD.length:=by rw[hn];simp[mH]
 refine C2 (iJ d.fName (by omega)) ?_;refine S0 (fun hb h=>?_) fun hb h=>?_
 ·have h1:=h;refine C2 (mU d.aF 3 (by omega) hb0.2.2.2) ?_;refine S0 (fun hb h=>?_) fun hb h=>?_
  ·have h2:=h;refine S0 (fun hb h=>?_) fun hb h=>?_
   ·have h3:=h;refine C2 (mU names 5 (by omega) hnl) ?_;refine aH ?_;rw[Bool.and_eq_true] at h2;have h4:=gq h2.1;unfold fD;rw[h1,h2.2,hall,<-hn,bD (show d.aF.length<=3 by omega),bD (show 1<=d.aD.length by omega),hlen];simp only[Bool.true_and];congr 1;exact iC ⟨fun h=>by omega,fun h=>by omega⟩
   ·refine aH ?_;unfold fD
    rw[aK (show ¬1<=d.aD.length by omega)];simp
  ·refine aH ?_;unfold fD
   have h2:(dec (d.aF.length<=3)&&iN d.aF)=false:=by
    rw[<-h];congr 1;exact iC ⟨fun h=>by omega,fun h=>by omega⟩
   rw[<-Bool.and_assoc (dec (d.aF.length<=3)),h2];simp
 ·exact aH (by unfold fD;rw[h];rfl)
theorem EA(d:aU)(hsz:d.sz<=4194304):aC prog 108 [d.v] (.c (.d (.b (fD d)))):=fun S=>by
 have hb0:=aU.bounds hsz
 have bad:∀i,∀hi:i<d.aD.length,p9 d.aF d.aD[i]=false->fD d=false:=fun i hi h=>by
  have:d.aD.all (p9 d.aF)=false:=Bool.eq_false_iff.2 fun hx=>by
   rw[List.all_eq_true.1 hx _ (List.getElem_mem hi)] at h;cases h
  unfold fD
  rw[this];simp
 refine zcx [.tmp 2] func108 ntmps108 ?_;refine W1 ?_;refine C2 (iI d.fName (by omega)) ?_;refine S0 (fun hb h=>?_) fun hb h=>?_
 ·exact aH (by unfold fD;rw[h];rfl)
 have h1:=h;refine S0 (fun hb h=>?_) fun hb h=>?_
 ·exact aH (by unfold fD;rw[aK (show ¬d.aF.length<=3 by omega)];simp)
 have h2:=h;refine C2 (pG d.aF (by omega) hb0.2.2.2) ?_;refine S0 (fun hb h=>?_) fun hb h=>?_
 ·exact aH (by unfold fD;rw[h];simp)
 have h3:=h;refine S0 (fun hb h=>?_) fun hb h=>?_
 ·exact aH (by unfold fD;rw[aK (show ¬1<=d.aD.length by omega)];simp)
 have h4:=h;refine S0 (fun hb h=>?_) fun hb h=>?_
 ·exact aH (by unfold fD;rw[aK (show ¬d.aD.length<=5 by omega)];simp)
 have h5:=h;refine W3 ?_;refine lQ 3 1 [] rfl (by simp) ?_
 refine aR (ι:=Nat×List (List UInt8)) zmx rfl [1,3,36,37,38] (fun y=>[.c (.ptr (0,0) 0),.c (.bB (0,1) (y.2.map encS)),.c (.d (.sl (d.aD.map bC.enc))),.c (.d (.i .i64 d.aD.length)),.c (.d (.i .i64 y.1))]) (fun y=>[.box (d.enc.map .d),.tok 1 (y.2.map encS)]::S)
  (fun y=>y.1<=d.aD.length/\y.2=(mH d).take y.1/\∀j,∀hj:j<d.aD.length,j<y.1->p9 d.aF d.aD[j]=true) (fun y=>d.aD.length-y.1) (0,[]) rfl ?_ ⟨Nat.zero_le _,rfl,fun j _ h=>by simp only at h;omega⟩ ?_
 ·exact Z1
 rintro⟨i,names⟩ ⟨p1,p2,p3⟩;simp only at p1 p2 p3
 have pl:names.length<=d.aD.length:=by rw[p2];simp[mH];omega
 refine W1 ?_;refine S0 (fun hb h=>?_) fun hb h=>?_
 ·have hi:i<d.aD.length:=by omega
  have hc:=bC.bounds (aU.UQ hi hsz);refine W3 ?_;refine S0 (fun hb h=>?_) fun hb h=>?_
  ·rw[bad i hi (by unfold p9;rw[aK (by omega)];rfl)]
  have k1:=h;refine W3 ?_;refine C2 (zJ d.aD[i].iA d.aF (by omega) hc.2.2 (by omega)) ?_;refine S0 (fun hb h=>?_) fun hb h=>?_
  ·rw[bad i hi (by unfold p9;rw[h];simp)]
  have k2:=h;refine W3 ?_;rw[show List.map encS names++[[D.s d.aD[i].fName]]=List.map encS (names++[d.aD[i].fName]) by simp[encS]]
  exact bL 2 (by decide) (i+1,names++[d.aD[i].fName]) (by simp only;omega) rfl rfl rfl rfl ⟨by simp only;omega,by simp only;rw[p2,iU (by simpa [mH] using hi)];simp[mH],fun j hj hji=>by
   simp only at hji;by_cases e:j=i
   ·subst e;unfold p9;rw[k2,bD (by omega)];rfl
   ·exact p3 j hj (by omega)⟩
 have hi:i=d.aD.length:=by omega
 have hn:names=mH d:=by rw[p2,List.take_of_length_le (by simp[mH];omega)]
 have hall:d.aD.all (p9 d.aF)=true:=List.all_eq_true.2 fun c hc=>by
  obtain⟨j,hj,e⟩:=List.getElem_of_mem hc;rw[<-e];exact p3 j hj (by omega)
 have hnl:∀s∈names,s.length<=4194304:=fun s hs=>by
  rw[hn] at hs;obtain⟨c,hc,e⟩:=List.mem_map.1 hs;obtain⟨j,hj,e'⟩:=List.getElem_of_mem hc;rw[<-e,<-e'];exact(bC.bounds (aU.UQ hj hsz)).1
 refine C2 (pG names (by omega) hnl) ?_;exact aH (by unfold fD;rw[h1,h3,hall,<-hn,bD (show d.aF.length<=3 by omega),bD (show 1<=d.aD.length by omega),bD (show d.aD.length<=5 by omega)];simp)
def nE:List UInt8:=[100,97,116,97]
def BZ(c:bC):aj:=bq ([bF c.fName]++c.iA.map bZ)
def baseD(d:aU):List aj:=[bF nE,bF d.fName,bq (aP d.aF)]
def sM(d:aU):aj:=bq (baseD d++d.aD.map BZ)
noncomputable def zS(d:aU):aj:=qM (fD d) (sM d)
theorem alE{d:aU}(h:d.sz<=1048576):(zS d).sz<=1048576:=Nat.le_trans (GH _ _) (by decide)
def MK:List bC->Nat
 |[]=>0
 |x::xs=>x.sz+MK xs
theorem Nn:∀l,bf (l.map bC.enc)=MK l
 |[]=>rfl
 |x::xs=>by rw[List.map_cons,bf,MK,Nn xs];rfl
theorem Fu(x:bC):x.sz=x.fName.length+(x.iA.length+uq x.iA):=by
 rw[<-Aw];simp only[bC.sz,bC.aQ,dz,D.sz,List.length_map];omega
theorem Dv(x:aU):x.sz=x.fName.length+(x.aF.length+(x.aF.map List.length).sum)+(x.aD.length+MK x.aD):=by
 rw[<-Nn,<-dB];simp only[aU.sz,aU.aQ,dz,D.sz,List.length_map];omega
theorem anD(c:bC):(BZ c).sz<=1+16*c.sz:=by
 have:=O5 c.iA;rw[BZ,jh,gM,List.length_append,List.length_map,Fu];simp[cZ,jI];omega
theorem aag:∀l:List bC,cZ (l.map BZ)<=l.length+16*MK l
 |[]=>by simp[cZ]
 |c::l=>by
  have h1:=anD c;have h2:=aag l;rw[List.map_cons,cZ,MK,List.length_cons];omega
theorem W9(d:aU):(sM d).sz<=7+16*d.sz:=by
 have:=aag d.aD;rw[sM,jh,gM,List.length_append,List.length_map,Dv];simp[baseD,cZ,jI,jh,jA,qY,nE];omega
theorem KA(n:Nat)(a b:List UInt8)(w:List (List UInt8)):lx [bF a,bF b,bq (aP w)] (n+1)=[[.s a,.ol (n+1) []],[.s b,.ol (n+1+1) []],[.s [],.ol (n+1+1+1) (lx (aP w) (n+1+1+1+1))]]:=by
 simp only[jK,ny,jJ,kX,kY,dW,bY,jZ]
theorem yE{vars:List (List UInt8)}{ts:List ak}(h:mF vars ts=true):jg ts=true:=xS.2 fun t ht=>by
 have:=List.all_eq_true.1 h t ht;unfold gY at this;rw[Bool.and_eq_true] at this;exact wL this.1
theorem GQ{d:aU}(h:fD d=true):∀c∈d.aD,jg c.iA=true:=fun c hc=>by
 have h1:d.aD.all (p9 d.aF)=true:=by
  unfold fD at h;simp only[Bool.and_eq_true] at h;simp_all
 have h2:=List.all_eq_true.1 h1 c hc;unfold p9 at h2;rw[Bool.and_eq_true] at h2;exact yE h2.2
theorem SX{l:List ak}{t:ak}(h:t∈l):t.sz<=uq l:=by
 rw[<-Aw];exact cB (List.mem_map_of_mem h)
theorem PI{l:List bC}{t:bC}(h:t∈l):t.sz<=MK l:=by
 rw[<-Nn];exact cB (List.mem_map_of_mem h)
theorem zT(d:aU)(n:Nat)(hv:fD d=true)(hsz:d.sz<=1048576):aC prog 68 [d.v] (.agg [.d (.s []),.d (.ol n (lx (sM d).ah (n+1)))]):=fun S=>by
 have hdz:=Dv d;have hfo:=GQ hv
 have hlen:d.aD.length<=1048576:=by omega
 obtain⟨L,hL⟩:∃L:Nat->Nat,L=fun i=>n+1+iQ (baseD d++(d.aD.map BZ).take i):=⟨_,rfl⟩;obtain⟨T,hT⟩:∃T:Nat->List (List D),T=fun i=>lx (baseD d++(d.aD.map BZ).take i) (n+1):=⟨_,rfl⟩
 have hT0:T 0=[[.s nE,.ol (n+1) []],[.s d.fName,.ol (n+1+1) []],[.s [],.ol (n+1+1+1) (lx (aP d.aF) (n+1+1+1+1))]]:=by
  rw[hT];simp only[List.take_zero,List.append_nil];exact KA _ _ _ _
 have fP:∀i,(T i).length<=i+3:=fun i=>by
  rw[hT];simp only[gH,List.length_append];have:=List.length_take_le i (d.aD.map BZ);simp[baseD];omega
 have hTs:∀i (hi:i<d.aD.length),T i++[[.s [],.ol (L i) (lx ([bF d.aD[i].fName]++d.aD[i].iA.map bZ) (L i+1))]]=T (i+1):=fun i hi=>by
  have:=AB (base:=baseD d) (l:=d.aD.map BZ) (i:=i) (by rw[List.length_map];exact hi) (n+1);rw[List.getElem_map] at this;rw[hT,hL];exact this
 have hTr:∀i,∀r∈T i,r.length=2:=fun i=>by rw[hT];exact kM
 have hTe:T d.aD.length=lx (sM d).ah (n+1):=by
  rw[hT];simp only
  rw[List.take_of_length_le (by simp)];rfl
 clear hT hL;refine qQ (n) 1 (rs:=[.cell 2 64]) zmx func68 ntmps68 rfl rfl rfl rfl rfl ?_;refine W1 ?_;refine C1 (cO _ (n+1)) ?_;refine C1 (cO _ (n+1+1)) ?_;refine C1 (dY d.aF (by omega) (n+1+1+1)) ?_;refine W3 ?_;refine lD n 3 2 (T 0) (.inl ?_) (hTr 0) ?_
 ·rw[hT0];rfl
 refine om (L 0) ?_
 refine aR (ι:=Nat) zmx rfl [2,3,15,16,17] (fun i=>[.c (.ptr (0,3) 0),.c (.bB (0,4) (T i)),.c (.d (.sl (d.aD.map bC.enc))),.c (.d (.i .i64 d.aD.length)),.c (.d (.i .i64 i))])
  (fun i=>[.seed (L i),.seed 1,.box [.d (.s d.fName),.d (.sl (d.aF.map encS)),.d (.sl (d.aD.map bC.enc))],.box [.d (.s []),.bn []],.eu n 2 (T i)]::S)
  (fun i=>i<=d.aD.length) (fun i=>d.aD.length-i) 0 rfl rfl (Nat.zero_le _) ?_
 intro i hi;have hl:=fP i;refine W1 ?_;refine S0 (fun hb h=>?_) fun hb h=>?_
 ·have hi':i<d.aD.length:=by omega
  have hm:=List.getElem_mem hi';have hcz:=PI hm;have hce:=Fu d.aD[i];have hs:=hTs i hi';refine W3 ?_;refine C1 (cO _ (L i+1)) ?_;refine C1 (Br d.aD[i].iA 0 (L i+1+1) (hfo _ hm) (by omega) (fun t ht=>by have:=SX ht;omega)) ?_;have hr:=kM (l:=d.aD[i].iA.map bZ) (n:=L i+1+1)
  have hl2:(lx (d.aD[i].iA.map bZ) (L i+1+1)).length=d.aD[i].iA.length:=by rw[gH,List.length_map]
  refine W3 ?_;refine C1 (lq _) ?_;refine W3 ?_;simp only[List.cons_append,List.nil_append,jK,wR,jZ] at hs;rw[hs];refine kS (L (i+1)) 4 (by decide) (i+1) (by omega) rfl rfl ?_ rfl (by omega);simp[iR,gV,V.refs,C.refs,kr]
 ·have hi':i=d.aD.length:=by omega
  refine cK rfl (kg 0 4 _ _) ?_;refine W1 ?_;rw[hi',hTe]
theorem F5(d:aU)(hsz:d.sz<=1048576):aC prog 82 [d.v] (zS d).v:=fun S=>by
 have hz:=W9 d;have hdz:=Dv d;obtain⟨T,hT⟩:∃T:Nat->List (List D),T=fun i=>(baseD d++(d.aD.map BZ).take i).map aj.enc:=⟨_,rfl⟩
 have hT0:T 0=[[.s nE,.sl []],[.s d.fName,.sl []],[.s [],.sl ((aP d.aF).map aj.enc)]]:=by
  rw[hT];simp only[List.take_zero,List.append_nil,baseD,List.map_cons,List.map_nil,fB,jE]
 have fP:∀i,(T i).length<=i+3:=fun i=>by
  rw[hT];simp only[List.length_map,List.length_append];have:=List.length_take_le i (d.aD.map BZ);simp[baseD];omega
 have hTs:∀i (hi:i<d.aD.length),T i++[[.s [],.sl (([bF d.aD[i].fName]++d.aD[i].iA.map bZ).map aj.enc)]]=T (i+1):=fun i hi=>by
  have:=ji (base:=baseD d) (l:=d.aD.map BZ) (i:=i) (by rw[List.length_map];exact hi);rw[List.getElem_map] at this;rw[hT];exact this
 have hTr:∀i,∀r∈T i,r.length=2:=fun i=>by rw[hT];exact gJ
 have hTe:T d.aD.length=(sM d).ah.map aj.enc:=by
  rw[hT];simp only
  rw[List.take_of_length_le (by simp)];rfl
 clear hT;refine zcx [.cell 2 64] func82 ntmps82 ?_;refine W1 ?_;refine C1 (bN _) ?_;refine C1 (bN _) ?_;refine C1 (dU d.aF (by omega)) ?_;have hE:=fun bP Ω=>jR (T 0) (hTr 0) (by have:=fP 0;omega) bP Ω;simp only[hT0] at hE;refine mQ [false] rfl (hE _ _) ?_;refine W1 ?_
 refine aR (ι:=Nat) zmx rfl [1,2,3,4] (fun i=>[.c (.ptr (0,0) 0),.c (.ptr (0,1) 0),.c (.ptr (0,4) 0),.c (.d (.i .i64 i))])
  (fun i=>[.box [.d (.s d.fName),.d (.sl (d.aF.map encS)),.d (.sl (d.aD.map bC.enc))],.box [.d (.s []),.bn []],.box [.d (.s []),.bB (0,3) (T 0)],.tok 2 (T i),.box [.d (.s []),.bB (0,3) (T i)]]::S)
  (fun i=>i<=d.aD.length) (fun i=>d.aD.length-i) 0 rfl (by simp only[hT0]<;>(try rfl)) (Nat.zero_le _) ?_
 intro i hi;have hl:=fP i;refine W1 ?_;refine S0 (fun hb h=>?_) fun hb h=>?_
 ·have hi':i<d.aD.length:=by omega
  have hm:=List.getElem_mem hi';have hcz:=PI hm;have hce:=Fu d.aD[i];have hs:=hTs i hi';refine W3 ?_;refine C1 (bN _) ?_;refine W3 ?_;refine C1 (Du d.aD[i].iA (by omega) (fun t ht=>by have:=SX ht;omega)) ?_;have hr:=gJ (l:=d.aD[i].iA.map bZ)
  have hl2:((d.aD[i].iA.map bZ).map aj.enc).length=d.aD[i].iA.length:=by rw[List.length_map,List.length_map]
  refine W3 ?_;simp only[List.cons_append,List.nil_append,List.map_cons,fB] at hs;rw[hs];exact bL 5 (by decide) (i+1) (by omega) rfl rfl rfl rfl (by omega)
 ·have hi':i=d.aD.length:=by omega
  subst hi';rw[hTe];refine C1 (Ez d (by omega)) ?_;refine C1 (q8 (fD d) (sM d) (by omega)) ?_;rfl
def Bt:List UInt8:=[116,114,117,101]
def zU:List UInt8:=[102,97,108,115,101]
def pJ:List UInt8:=[99,97,108,108]
def jw:List UInt8:=[109,101,116,104,111,100]
def sU:List UInt8:=[110,101,119]
def lI:List UInt8:=[99,97,115,101]
def sV:List UInt8:=[108,101,116]
def xU:List UInt8:=[105,102]
def pK:List UInt8:=[112,97,99,107]
def ug:List UInt8:=[116,104,101]
def jo(k:Int)(tr nm:List UInt8)(ty:ak):List aj:=
 if k=4 then aP [pJ,nm] else if k=5 then aP [jw,tr,nm] else if k=6 then aP [sU,nm] else if k=8 then aP [sV,nm] else
 if k=9 then aP [xU] else if k=10 then aP [nm] else if k=11 then aP [pK,tr] else if k=12 then [bF ug,bZ ty] else aP [lI]
mutual
def fu:ay->aj
 | .mk k tr nm n ty zs ms=>if k=1 then bF (Lib.itoa n) else if k=2 then bF (if n=1 then Bt else zU) else if k=3 then bF nm else
   bq (jo k tr nm ty++Cz zs++(if k=4\/k=5\/k=6\/k=8\/k=9\/k=10\/k=11\/k=12 then [] else IV ms))
def Cz:List ay->List aj
 |[]=>[]
 |t::ts=>fu t::Cz ts
def Ag:aZ->aj
 | .mk c vs b=>bq ([bF c]++aP vs++[fu b])
def IV:List aZ->List aj
 |[]=>[]
 |t::ts=>Ag t::IV ts
end
theorem EB:∀l,Cz l=l.map fu
 |[]=>rfl
 |t::ts=>by rw[Cz,List.map_cons,EB ts]
theorem IW:∀l,IV l=l.map Ag
 |[]=>rfl
 |t::ts=>by rw[IV,List.map_cons,IW ts]
theorem KC(x:ay):fu x=if x.aM=1 then bF (Lib.itoa x.fN) else if x.aM=2 then bF (if x.fN=1 then Bt else zU) else if x.aM=3 then bF x.fName else
 bq (jo x.aM x.bG x.fName x.fType++x.fArgs.map fu++(if x.aM=4\/x.aM=5\/x.aM=6\/x.aM=8\/x.aM=9\/x.aM=10\/x.aM=11\/x.aM=12 then [] else x.aS.map Ag)):=by
 cases x;rw[fu,EB,IW];rfl
theorem afz(x:aZ):Ag x=bq ([bF x.dO]++aP x.aF++[fu x.fBody]):=by cases x;rw[Ag];rfl
def vo:List ay->Nat
 |[]=>0
 |x::xs=>x.sz+vo xs
theorem Np:∀l,bf (l.map ay.enc)=vo l
 |[]=>rfl
 |x::xs=>by rw[List.map_cons,bf,vo,Np xs];rfl
def CU:List aZ->Nat
 |[]=>0
 |x::xs=>x.sz+CU xs
theorem Nq:∀l,bf (l.map aZ.enc)=CU l
 |[]=>rfl
 |x::xs=>by rw[List.map_cons,bf,CU,Nq xs];rfl
theorem yF(x:ay):x.sz=x.bG.length+x.fName.length+x.fType.sz+(x.fArgs.length+vo x.fArgs)+(x.aS.length+CU x.aS):=by
 rw[<-Np,<-Nq];simp only[ay.sz,ay.aQ,dz,bW,D.sz,List.length_map,ak.iD];omega
theorem Ca(x:aZ):x.sz=x.dO.length+(x.aF.length+(x.aF.map List.length).sum)+x.fBody.sz:=by
 rw[<-dB];simp only[aZ.sz,aZ.aQ,dz,bW,D.sz,List.length_map,ay.iD];omega
theorem GR:∀(k n:Nat),n<10^ (k+1)->(Lib.decDigits n).length<=k+1
 |0,n,h=>by rw[Lib.decDigits,dif_pos (by simpa using h)];simp
 |k+1,n,h=>by
  rw[Lib.decDigits];split
  ·simp
  ·rw[List.length_append];have:=GR k (n/10) (by rw[Nat.pow_succ] at h;omega);simp;omega
theorem ai3{n:Int}(h: -999999<=n/\n<=999999):(Lib.itoa n).length<=7:=by
 unfold Lib.itoa;split
 ·have:=GR 5 n.natAbs (by omega);simp;omega
 ·have:=GR 5 n.toNat (by omega);omega
theorem afA(k:Int)(tr nm:List UInt8)(ty:ak):(jo k tr nm ty).length<=3/\cZ (jo k tr nm ty)<=18+tr.length+nm.length+16*ty.sz:=by
 have h:=BS ty;unfold jo
 repeat' (first|(split;·refine⟨by simp[aP],?_⟩;simp[cZ,aP,jI,pJ,jw,sU,sV,xU,pK,ug,lI];omega))
 refine⟨by simp[aP],?_⟩;simp[cZ,aP,jI,lI];omega
mutual
theorem KD:∀x:ay,iV x=true->(fu x).sz<=24+32*x.sz
 | .mk k tr nm n ty zs ms=>fun hok=>by
   rw[iV,Bool.and_eq_true,Bool.and_eq_true] at hok;have hf:=gq hok.1;have h1:=aah zs hok.2.1;have h2:=aai ms hok.2.2;have h3:=afA k tr nm ty;rw[yF];simp only[ay.fName,ay.fArgs,ay.bG,ay.fType,ay.aS];rw[fu];split
   ·rename_i hk;have h4:=hf.2.2.2.1;simp only[ay.aM,ay.fN,hk,if_true] at h4;have:=ai3 h4;rw[jI];omega
   ·split
    ·rw[jI];split<;>simp[Bt,zU]<;>omega
    ·split
     ·rw[jI];omega
     ·rw[jh,gM,gM,List.length_append,List.length_append,EB,List.length_map,<-EB];split
      ·simp[cZ];omega
      ·rw[IW,List.length_map,<-IW];omega
theorem aah:∀xs:List ay,mK xs=true->cZ (Cz xs)<=24*xs.length+32*vo xs
 |[],_=>by simp[Cz,cZ]
 |x::xs,h=>by
  rw[mK,Bool.and_eq_true] at h;have h1:=KD x h.1;have h2:=aah xs h.2;rw[Cz,cZ,vo,List.length_cons];omega
theorem anE:∀x:aZ,xu x=true->(Ag x).sz<=26+32*x.sz
 | .mk c vs b=>fun hok=>by
   rw[xu,Bool.and_eq_true,Bool.and_eq_true] at hok;have h1:=KD b hok.2.2;rw[Ca];simp only[aZ.dO,aZ.aF,aZ.fBody];rw[Ag,jh,gM,gM,List.length_append,List.length_append,jA,qY];simp[cZ,jI];omega
theorem aai:∀xs:List aZ,pU xs=true->cZ (IV xs)<=26*xs.length+32*CU xs
 |[],_=>by simp[IV,cZ]
 |x::xs,h=>by
  rw[pU,Bool.and_eq_true] at h;have h1:=anE x h.1;have h2:=aai xs h.2;rw[IV,cZ,CU,List.length_cons];omega
end
end Go.Ab
namespace Go.Proofs
open Go.Shelf
def Tryz.laysM171_ren:Go.Shelf.Ren:=⟨fun|171=>233|243=>256|246=>281|283=>295|284=>296|285=>297|286=>298|129=>307|317=>306|318=>308|319=>309|320=>310|337=>314|338=>315|n=>n,fun|3=>3|9=>9|2=>2|4=>4|171=>273|0=>0|53=>274|37=>22|5=>5|173=>277|212=>287|51=>237|20=>20|213=>288|46=>131|232=>302|233=>303|n=>n,fun|17=>3|18=>6|19=>7|n=>n⟩
theorem Tryz.laysM171:Go.Proofs.LaysM.n171 prog Tryz.laysM171_ren:={
 mixed:=by kernel_rfl
 f129:=func307.trans (congrArg some (by kernel_rfl))
 f171:=func233.trans (congrArg some (by kernel_rfl))
 f243:=func256.trans (congrArg some (by kernel_rfl))
 f246:=func281.trans (congrArg some (by kernel_rfl))
 f283:=func295.trans (congrArg some (by kernel_rfl))
 f284:=func296.trans (congrArg some (by kernel_rfl))
 f285:=func297.trans (congrArg some (by kernel_rfl))
 f286:=func298.trans (congrArg some (by kernel_rfl))
 f317:=func306.trans (congrArg some (by kernel_rfl))
 f318:=func308.trans (congrArg some (by kernel_rfl))
 f319:=func309.trans (congrArg some (by kernel_rfl))
 f320:=func310.trans (congrArg some (by kernel_rfl))
 f337:=func314.trans (congrArg some (by kernel_rfl))
 f338:=func315.trans (congrArg some (by kernel_rfl))
 t0:=underlying0
 a0:=Tryz.isAgg0
 z0:=Tryz.sizeOf0
 v0:=Tryz.zeroValue0
 t2:=underlying2
 a2:=Tryz.isAgg2
 z2:=Tryz.sizeOf2
 v2:=Tryz.zeroValue2
 t3:=underlying3
 a3:=Tryz.isAgg3
 z3:=Tryz.sizeOf3
 v3:=Tryz.zeroValue3
 t4:=underlying4
 a4:=Tryz.isAgg4
 z4:=Tryz.sizeOf4
 v4:=Tryz.zeroValue4
 t5:=underlying5
 a5:=Tryz.isAgg5
 z5:=Tryz.sizeOf5
 v5:=Tryz.zeroValue5
 t9:=underlying9
 a9:=Tryz.isAgg9
 z9:=Tryz.sizeOf9
 v9:=Tryz.zeroValue9
 t20:=underlying20
 a20:=Tryz.isAgg20
 z20:=Tryz.sizeOf20
 v20:=Tryz.zeroValue20
 t37:=underlying22
 a37:=Tryz.isAgg22
 z37:=Tryz.sizeOf22
 v37:=Tryz.zeroValue22
 t46:=underlying131
 a46:=Tryz.isAgg131
 z46:=Tryz.sizeOf131
 v46:=Tryz.zeroValue131
 t51:=underlying237
 a51:=Tryz.isAgg237
 z51:=Tryz.sizeOf237
 v51:=Tryz.zeroValue237
 t53:=underlying274
 a53:=Tryz.isAgg274
 z53:=Tryz.sizeOf274
 v53:=Tryz.zeroValue274
 t171:=underlying273
 a171:=Tryz.isAgg273
 z171:=Tryz.sizeOf273
 v171:=Tryz.zeroValue273
 t173:=underlying277
 a173:=Tryz.isAgg277
 z173:=Tryz.sizeOf277
 v173:=Tryz.zeroValue277
 t212:=underlying287
 a212:=Tryz.isAgg287
 z212:=Tryz.sizeOf287
 v212:=Tryz.zeroValue287
 t213:=underlying288
 a213:=Tryz.isAgg288
 z213:=Tryz.sizeOf288
 t232:=underlying302
 a232:=Tryz.isAgg302
 z232:=Tryz.sizeOf302
 v232:=Tryz.zeroValue302
 t233:=underlying303
 a233:=Tryz.isAgg303
 z233:=Tryz.sizeOf303
 v233:=Tryz.zeroValue303
 g17:=by kernel_rfl
 g18:=by kernel_rfl
 g19:=by kernel_rfl
 i0:=by kernel_rfl
 i2:=by kernel_rfl
 i3:=by kernel_rfl
 i4:=by kernel_rfl
 i5:=by kernel_rfl
 i9:=by kernel_rfl
 i20:=by kernel_rfl
 i37:=by kernel_rfl
 i46:=by kernel_rfl
 i51:=by kernel_rfl
 i53:=by kernel_rfl
 i171:=by kernel_rfl
 i173:=by kernel_rfl
 i212:=by kernel_rfl
 i232:=by kernel_rfl
 i233:=by kernel_rfl
 m17:=by kernel_rfl
 m18:=by kernel_rfl
 m19:=by kernel_rfl}
open Go.RowKit Go.Sort Go.Lib in
theorem Tryz.strconv_Itoa(n:Int)(h0: -9223372036854775808<=n)(h1:n<=9223372036854775807)(w:World)(htab:Lib.TabIs prog w "internal/strconv.uint64pow10" .u64 Lib.pow10Tab):
 Calls prog 233 #[.int .i64 n] w fun e w'=>e=.returned (.string ⟨(Lib.itoa n).toArray⟩)/\∃k os,w'=grow (w.drewN k) os:=Any.strconv_Itoa Tryz.laysM171 n h0 h1 w htab
end Go.Proofs
namespace Go.Ab
theorem acT{w:World}{σ:Nat->Nat}{k:Nat}{os:Array Go.Obj}(hl:∀b,b<w.heap.size\/σ b=0):Grow w σ (Go.Sort.grow (w.drewN k) os) σ:=by
 have hh:(Go.Sort.grow (w.drewN k) os).heap=w.heap++os:=rfl;refine⟨by rw[hh];simp,rfl,rfl,fun b hb=>⟨by rw[hh,Array.getElem?_append_left hb],rfl⟩,fun b=> ?_⟩;rcases hl b with h|h
 ·left;rw[hh];simp;omega
 ·exact .inr h
theorem alF{x:V}{vs:List Value}{w:World}{σ:Nat->Nat}{S:Store}{β:Hs}(h:qh w σ S β [x] vs):∃v,vs=[v]/\dS w σ S β x v:=by
 obtain⟨hl,h⟩:=h;obtain⟨v,e,hr⟩:=h 0 x rfl
 match vs,hl,e with
 |[y],_,e=>simp at e;subst e;exact⟨_,rfl,hr⟩
theorem SY{w:World}{σ:Nat->Nat}(h:l7 w σ):Lib.TabIs prog w "internal/strconv.uint64pow10" .u64 Lib.pow10Tab:=by
 obtain⟨c,t,fz,q1,q2,q3⟩:=h _ _ (show _∈ZP from List.mem_cons_self ..)
 have hn:prog.globalNamed "internal/strconv.uint64pow10" =some 3:=by kernel_rfl
 unfold Lib.TabIs World.var?;rw[hn];simp only[Option.bind_some,q1,Option.some.injEq];apply Array.ext';rw[q2];simp[Lib.pow10Tab]
theorem alG(n:Int)(h0: -9223372036854775808<=n)(h1:n<=9223372036854775807):aC prog 233 [.c (.d (.i .i64 n))] (.c (.d (.s (Lib.itoa n)))):=fun S=>by
 refine⟨⟨_,func233,by kernel_rfl,by kernel_rfl⟩,fun w σ β vs hS hv=> ?_⟩;obtain⟨v,rfl,hr,_⟩:=alF hv
 have hv0:v=.int .i64 n:=by cases hr;rfl
 subst hv0;refine(Tryz.strconv_Itoa n h0 h1 w (SY hS.vO)).mono fun e w' ⟨he,k,os,hw⟩=> ?_;subst hw;have hg:Grow w σ (Go.Sort.grow (w.drewN k) os) σ:=acT hS.live;exact⟨_,.c (.d (.s (Lib.itoa n))),S,σ,β,he,hS.grow hg,Keep.refl _ _,Step.lX hg,⟨.s _,rfl⟩,rfl,rfl⟩
theorem Nr(n:Int)(h0: -9223372036854775808<=n)(h1:n<=9223372036854775807):aC prog 187 [.c (.d (.i .i64 n))] (.c (.d (.s (Lib.itoa n)))):=fun S=>by
 refine zcx [.tmp 2] func187 ntmps187 ?_;refine W1 ?_;exact C4 (alG n h0 h1)
def KE(m:Nat):List UInt8:=if m=0 then [] else Lib.decDigits m
theorem afB{m:Nat}(h:m≠0):KE (m/10)++[UInt8.ofNat (48+m % 10)]=KE m:=by
 unfold KE;rw[if_neg h]
 conv=>rhs;rw[Lib.decDigits]
 by_cases h10:m<10
 ·rw[dif_pos h10,if_pos (by omega),List.nil_append,Nat.mod_eq_of_lt h10]
 ·rw[dif_neg h10,if_neg (by omega)]
theorem ai4(n:Int)(h0: -9223372036854775808<=n)(h1:n<=9223372036854775807):∃sg:Nat->Int,sg 0=0/\sg n.natAbs=n/\(∀m,m≠0->sg m≠0)/\(∀m,(sg m).tmod 10= -((m % 10:Nat):Int)\/(sg m).tmod 10=((m % 10:Nat):Int))/\
 (∀m,(sg m).tdiv 10=sg (m/10))/\∀m,m<=n.natAbs-> -9223372036854775808<=sg m/\sg m<=9223372036854775807:=by
 by_cases h:n<0
 ·refine⟨fun m=> -(m:Int),rfl,by simp only;omega,fun m hm=>by simp only;omega,fun m=>.inl ?_,fun m=> ?_,fun m hm=>by simp only;omega⟩
  ·simp only;rw[Int.neg_tmod];congr 1
  ·simp only;rw[Int.neg_tdiv];congr 1
 ·refine⟨fun m=>(m:Int),rfl,by simp only;omega,fun m hm=>by simp only;omega,fun m=>.inr rfl,fun m=>rfl,fun m hm=>by simp only;omega⟩
theorem afC:Lib.itoa 0=[48]:=by
 unfold Lib.itoa;rw[if_neg (by decide),Lib.decDigits,dif_pos (by decide)];rfl
theorem acU(a:Nat)(h:a<=9223372036854775808):(Lib.decDigits a).length<=19:=GR 18 a (by omega)
theorem yG(n:Int)(h0: -9223372036854775808<=n)(h1:n<=9223372036854775807):aC prog 192 [.c (.d (.i .i64 n))] (.c (.d (.s (Lib.itoa n)))):=fun S=>by
 obtain⟨sg,g0,gn,gne,arK,arL,anF⟩:=ai4 n h0 h1;refine zcx [.tmp 2] func192 ntmps192 ?_;refine W1 ?_;refine S0 (fun hb h=>?_) fun hb h=>?_
 ·rw[h,afC]
 have hn0:=h
 have hd0:KE n.natAbs=Lib.decDigits n.natAbs:=by unfold KE;rw[if_neg (by omega)]
 have hln:=acU n.natAbs (by omega)
 refine aR (ι:=Nat×List UInt8) zmx rfl [0,3,4] (fun y=>[.c (.d (.i .i64 (sg y.1))),.c (.d (.b (decide (n<0)))),.c (.d (.s y.2))]) (fun _=>[]::S)
  (fun y=>y.1<=n.natAbs/\KE y.1++y.2=KE n.natAbs/\y.2.length<=19) (fun y=>y.1) (n.natAbs,[]) (by rw[gn];rfl) rfl ⟨Nat.le_refl _,List.append_nil _,by simp⟩ ?_
 rintro⟨m,out⟩ ⟨p1,p2,p3⟩;simp only at p1 p2 p3;have hr:=anF m p1;have hm:=arK m;have hq:=arL m
 generalize hx:sg m=x at *
 generalize hy:x.tmod 10=y at *
 have hlo:out.length<=19:=p3;refine W1 ?_;refine S0 (fun hb h=>?_) fun hb h=>?_
 ·have hm0:m≠0:=fun e=>by rw[e,g0] at hx;omega
  have hst:=afB hm0;have hr2:=anF (m/10) (by omega)
  have atx:(KE (m/10)).length+1+out.length<=19:=by
   have:=congrArg List.length p2;rw[<-hst,hd0] at this;simp only[List.length_append,List.length_cons,List.length_nil] at this;omega
  simp -implicitDefEqProofs (disch:=omega) only[go_sem,hy];refine S0 (fun hb h=>?_) fun hb h=>?_
  ·have e1:(0:Int)-y=((m % 10:Nat):Int):=by omega
   have hc:UInt8.ofNat (IntKind.u8.wrap (48+(0-y))).toNat=UInt8.ofNat (48+m % 10):=by
    rw[wrap_u8 _ (by omega),e1];congr 1
   simp -implicitDefEqProofs (disch:=omega) only[go_sem,hy,hq];refine W3 ?_;refine bV (m/10,UInt8.ofNat (48+m % 10)::out) (by simp only;omega) (by rw[<-hc];rfl) rfl ⟨by simp only;omega,?_,by simp only[List.length_cons];omega⟩
   simp only
   rw[<-p2,<-hst,List.append_assoc];rfl
  ·have e1:y=((m % 10:Nat):Int):=by omega
   have hc:UInt8.ofNat (IntKind.u8.wrap (48+y)).toNat=UInt8.ofNat (48+m % 10):=by
    rw[wrap_u8 _ (by omega),e1];congr 1
   simp -implicitDefEqProofs (disch:=omega) only[go_sem,hy,hq];refine W3 ?_;refine bV (m/10,UInt8.ofNat (48+m % 10)::out) (by simp only;omega) (by rw[<-hc];rfl) rfl ⟨by simp only;omega,?_,by simp only[List.length_cons];omega⟩
   simp only
   rw[<-p2,<-hst,List.append_assoc];rfl
 ·have hm0:m=0:=by
   rcases Nat.eq_zero_or_pos m with e|e
   ·exact e
   ·exact absurd (by rw[hx];omega) (gne m (by omega))
  subst hm0
  have hout:out=Lib.decDigits n.natAbs:=by rw[<-hd0,<-p2];rfl
  refine S0 (fun hb h=>?_) fun hb h=>?_
  ·refine W3 ?_;rw[hout];unfold Lib.itoa;rw[if_pos h]
  ·rw[hout];unfold Lib.itoa;rw[if_neg h,show n.toNat=n.natAbs by omega]
theorem KF{P:Program}{w:World}{t u ty e:TypeId}{base:Option Addr}{n:Nat}{i:TypeInfo}{z:Value}(ht:P.underlying t=some (.slice e))(hu:P.underlying u=some (.int .i64))(hi:P.info? e=some i)
 (hz:i.zero=some z)(h1:1<=n)(hn:n<=1073741824)(hb:i.bytes<=4096)(hs:i.size=z.cells.size):
 ∃(cap:Nat) (row:Array Value),n<=cap/\row.size=cap*z.cells.size/\(Builtin.append_ #[t,u] ty #[.slice base 0 0,.int .i64 n]).run P w=
  .ok (.slice (some ⟨w.heap.size,0,none⟩) n cap) {w.drew with heap:=w.heap.push (.cells row e)}:=by
 have hn1:=NZ n 0 (by omega)
 have h48:¬(281474976710656<Builtin.nextslicecap n 0*i.bytes):=by
  have:Builtin.nextslicecap n 0*i.bytes<=(2*n+512)*4096:=Nat.mul_le_mul hn1 hb;omega
 have h49:¬(281474976710656<(n:Int)*(i.bytes:Int)):=by
  have h2:n*i.bytes<=1073741824*4096:=Nat.mul_le_mul hn hb
  have:(n:Int)*(i.bytes:Int)=((n*i.bytes:Nat):Int):=by simp
  rw[this];omega
 have h63':¬(9223372036854775807<(n:Int)):=by omega
 have hroom':¬(n<=0):=by omega
 have hneg:¬((n:Int)<0):=by omega
 have hn0:¬n=0:=by omega
 have hw:IntKind.i64.wrap (n:Int)=n:=Lm _ (by omega)
 have hmax:IntKind.i64.max=9223372036854775807:=by decide
 have ha:∀w:World,(asInt (.int .i64 (n:Int))).run P w=.ok (n:Int) w:=fun w=>by simp[asInt,asIntOf]
 let cap:=(Question.appendCap n 0 e).cut (w.tape w.drawn (Question.appendCap n 0 e))
 have hcap:n<=cap:=by simp[cap,Question.cut]
 refine⟨cap,#[]++(if n*i.size=0 then #[] else Builtin.zeroCells z.cells n)++Builtin.zeroCells z.cells (cap-n),hcap,?_,?_⟩
 ·by_cases h0:n*i.size=0
  ·rw[if_pos h0]
   have hsz:z.cells.size=0:=by
    rcases Nat.mul_eq_zero.1 h0 with h|h
    ·omega
    ·omega
   simp[Builtin.zeroCells,hsz]
  ·rw[if_neg h0];simp only[Builtin.zeroCells,Array.size_append,Array.size_map,Array.size_range,Array.size_empty,Nat.zero_add];rw[<-Nat.add_mul];congr 1;omega
 ·by_cases h0:n*i.size=0
  ·rw[if_pos h0];cases base<;>simp[Builtin.append_,run_underlying ht,run_underlying hu,sizeOf,typeInfo,zeroValue,hi,hz,hroom',h48,h49,h63',hneg,hw,hmax,Question.forced,newRow,ha,hn0,loadCellsFrom,h0,Builtin.firstCells,loadCells]<;>exact⟨rfl,rfl⟩
  ·rw[if_neg h0];cases base<;>simp[Builtin.append_,run_underlying ht,run_underlying hu,sizeOf,typeInfo,zeroValue,hi,hz,hroom',h48,h49,h63',hneg,hw,hmax,Question.forced,newRow,ha,hn0,loadCellsFrom,h0,Builtin.firstCells,loadCells]<;>exact⟨rfl,rfl⟩
theorem afD(base:Option Addr)(n:Nat)(h1:1<=n)(hn:n<=1073741824)(w:World):Calls prog 294 #[.slice base 0 0,.int .i64 n] w fun e w'=>
 ∃cap row,n<=cap/\row.size=cap/\e=.returned (.slice (some ⟨w.heap.size,0,none⟩) 0 cap)/\w'={w.drew with heap:=w.heap.push (.cells row 9)}:=by
 obtain⟨cap,row,hc,hr,hm⟩:=KF (P:=prog) (w:=w) (t:=36) (u:=3) (ty:=36) (e:=9) (base:=base) (n:=n) underlying36 underlying3 rfl rfl h1 hn (by decide +kernel) rfl
 have h0:¬((n:Int)<0):=by omega
 have h2:(0:Int)<n:=by omega
 go_enter func294,ntmps294
 go_wp2_with (at_builtin;refine Lib.wpList_append_run _ rfl _ _ _ _ rfl _ _ rfl rfl _ _ hm ?_)
 all_goals go_ret
 exact⟨cap,hc,row,hr.trans (Nat.mul_one _),rfl,rfl⟩
theorem acV(base:Option Addr)(w:World):Calls prog 294 #[.slice base 0 0,.int .i64 0] w fun e w'=>e=.returned (.slice base 0 0)/\w'=w:=by
 go_enter func294,ntmps294
 go_wp2
 all_goals go_ret
 exact⟨rfl,rfl⟩
theorem ai5(n:Nat)(hn:n<=1073741824)(bP:List Ab.Obj)(Ω:Store):dw prog 294 [.c (.bn []),.c (.d (.i .i64 n))] (bP::Ω)
 (fun r S'=>r=.c (.bB (0,bP.length) [])/\S'=(bP++[.tok 1 []])::Ω):=by
 refine⟨⟨_,func294,by kernel_rfl,by kernel_rfl⟩,fun w σ β vs hS hv=> ?_⟩;obtain⟨hl,h⟩:=hv;obtain⟨v0,e0,⟨h0,a,m,h00⟩,_⟩:=h 0 _ rfl;obtain⟨v1,e1,h1,_⟩:=h 1 _ rfl
 have h1':v1=.int .i64 n:=by cases h1;rfl
 subst h1'
 have hm:m=0:=by rw[h00] at h0;cases h0<;>rfl
 subst hm;subst h00
 have hvs:vs=[.slice a 0 0,.int .i64 n]:=by
  match vs,hl,e0,e1 with
  |[x,y],_,e0,e1=>simp at e0 e1;rw[e0,e1]
 subst hvs
 cases β with
 |nil=>have:=hS.shape.1;simp at this
 |cons bo bΩ=>
 have hlen:bo.length=bP.length:=by
  obtain⟨gr,g1,g2⟩:=hS.shape.2 0 bP rfl;simp at g1;rw[g1];exact g2
 by_cases hz:n=0
 ·subst hz;refine(acV a w).mono fun e w' ⟨he,hw⟩=> ?_;subst hw;obtain⟨hS',hk,hst⟩:=hS.push (o:=.tok 1 []) (h:=.slice a 0 0) (Grow.refl hS.live) hlen ⟨h0,by simp,a,0,rfl,by simp,.inl rfl⟩ (fun b hb=>by cases a<;>simp[owns,blk] at hb);refine⟨_,.c (.bB (0,bP.length) []),_,_,_,he,hS',hk,hst,⟨⟨h0,.tok 1 [],?_,fun aW es e=> ?_⟩,rfl⟩,rfl,rfl⟩
  ·rw[dx]
  ·obtain⟨_,rfl⟩:=oL (lab:=none) e;exact⟨Nat.le_refl _,fun _=>by rw[<-hlen,dx]⟩
 ·refine(afD a n (by omega) hn w).mono fun e w' ⟨cap,row,hc,hr,he,hw⟩=> ?_;subst hw;have hσ:σ w.heap.size=0:=(hS.live w.heap.size).resolve_left (by omega)
  have hg:Grow w σ {w.drew with heap:=w.heap.push (.cells row 9)} σ:=by
   refine⟨by simp,rfl,rfl,fun b hb=>⟨?_,rfl⟩,fun b=> ?_⟩
   ·simp only[Array.getElem?_push];rw[if_neg (by omega)]
   ·rcases hS.live b with hb|hb
    ·left;simp;omega
    ·exact .inr hb
  obtain⟨hS',hk,hst⟩:=hS.push (o:=.tok 1 []) (h:=.slice (some ⟨w.heap.size,0,none⟩) 0 cap) hg hlen ⟨.nil _ _,by simp,_,cap,rfl,by simp,.inr ⟨w.heap.size,0,row,9,rfl,by simp,by simp[hσ],by omega⟩⟩ (fun b hb=>by
   simp only[owns,blk] at hb;split at hb
   ·cases hb
   ·cases hb;exact Nat.le_refl _)
  refine⟨_,.c (.bB (0,bP.length) []),_,_,_,he,hS',hk,hst,⟨⟨.nil _ _,.tok 1 [],?_,fun aW es e=> ?_⟩,rfl⟩,rfl,rfl⟩
  ·rw[dx]
  ·obtain⟨_,rfl⟩:=oL (lab:=none) e;exact⟨Nat.le_refl _,fun _=>by rw[<-hlen,dx]⟩
theorem EC{xs:List (List UInt8)}:∀y∈xs.map encS,y.length=1:=fun y hy=>by
 obtain⟨z,_,rfl⟩:=List.mem_map.1 hy;rfl
theorem IX{α:Type}(xss:List (List α)){i:Nat}(hi:i<xss.length):(xss.take (i+1)).flatten.length=(xss.take i).flatten.length+xss[i].length:=by
 rw[List.take_succ_eq_append_getElem hi,List.flatten_append,List.length_append];simp only[List.flatten_cons,List.flatten_nil,List.append_nil]
theorem yY{α:Type}(xss:List (List α))(i:Nat):(xss.take i).flatten.length<=xss.flatten.length:=by
 conv=>rhs;rw[<-List.take_append_drop i xss]
 rw[List.flatten_append,List.length_append];omega
theorem acW(xss:List (List (List UInt8)))(hl:xss.length<=1073741824)(hf:xss.flatten.length<=1073741824):aC prog 280 [.c (.d (.sl (xss.map fun a=>[.sl (a.map encS)])))] (.c (.d (.sl (xss.flatten.map encS)))):=fun S=>by
 refine zcx [.tmp 2] func280 ntmps280 ?_;refine W1 ?_
 refine aR (ι:=Nat) zmx rfl [0,3,9,10,11] (fun i=>[.c (.d (.sl (xss.map fun a=>[.sl (a.map encS)]))),.c (.d (.i .i64 (xss.take i).flatten.length)),.c (.d (.sl (xss.map fun a=>[.sl (a.map encS)]))),.c (.d (.i .i64 xss.length)),.c (.d (.i .i64 i))]) (fun _=>[]::S)
  (fun i=>i<=xss.length) (fun i=>xss.length-i) 0 rfl rfl (Nat.zero_le _) ?_
 rintro i p1;have hfi:=yY xss i;by_cases hi:i<xss.length
 ·have hs:=IX xss hi;have ai6:=yY xss (i+1);refine W1 ?_;refine S0 (fun hb h=>?_) fun hb h=>?_
  ·refine W3 ?_;refine S0 (fun hb h=>?_) fun hb h=>?_
   ·omega
   ·refine bV (i+1) (by omega) ?_ rfl (by omega);rw[hs];rfl
  ·omega
 have hi:i=xss.length:=by omega
 subst hi;refine W1 ?_;refine S0 (fun hb h=>?_) fun hb h=>?_
 ·omega
 rw[List.take_length];clear hfi;refine cK rfl (ai5 xss.flatten.length hf [] S) ?_;refine W1 ?_
 refine aR (ι:=Nat) zmx rfl [6,25,26,27] (fun i=>[.c (.bB (0,0) ((xss.take i).flatten.map encS)),.c (.d (.sl (xss.map fun a=>[.sl (a.map encS)]))),.c (.d (.i .i64 xss.length)),.c (.d (.i .i64 i))]) (fun i=>[.tok 1 ((xss.take i).flatten.map encS)]::S)
  (fun i=>i<=xss.length) (fun i=>xss.length-i) 0 rfl rfl (Nat.zero_le _) ?_
 rintro i p1;have hfi:=yY xss i;by_cases hi:i<xss.length
 ·have hs:=IX xss hi;have ai6:=yY xss (i+1)
  have e:(xss.take (i+1)).flatten.map encS=(xss.take i).flatten.map encS++xss[i].map encS:=by
   rw[List.take_succ_eq_append_getElem hi,List.flatten_append,List.map_append];simp only[List.flatten_cons,List.flatten_nil,List.append_nil]
  refine W1 ?_;refine S0 (fun hb h=>?_) fun hb h=>?_
  ·refine W3 ?_;refine⟨EC,⟨_,rfl,rfl⟩,by omega,?_⟩;exact bV (i+1) (by omega) (by rw[e];rfl) (by rw[e]) (by omega)
  ·omega
 ·have hi:i=xss.length:=by omega
  subst hi;refine W1 ?_;refine S0 (fun hb h=>?_) fun hb h=>?_
  ·omega
  rw[List.take_length]
theorem acX(c:Nat)(w:World):Calls prog 279 #[.slice none 0 c] w fun e w'=>e=.returned (.slice none 0 0)/\w'=w:=by
 have hb:(binOp .eql 36 (.slice none 0 c) (.slice none 0 0)).run prog w=.ok (.bool true) w:=by
  simp[binOp,run_equal_slice_nil w _ _ _ _ _ underlying36]
 go_enter func279,ntmps279
 go_wp2
 all_goals go_ret
 exact⟨rfl,rfl⟩
theorem acY(w w':World)(a:Addr)(n c:Nat)(r:Value)(hm:(Builtin.append_ #[36,36] 36 #[.slice (some ⟨w.heap.size,0,none⟩) 0 0,.slice (some a) n c]).run prog (w.alloc (.cells #[] 9))=.ok r w'):
 Calls prog 279 #[.slice (some a) n c] w fun e w''=>e=.returned r/\w''=w':=by
 have hb:(binOp .eql 36 (.slice (some a) n c) (.slice none 0 0)).run prog w=.ok (.bool false) w:=by
  simp[binOp,run_equal_slice_nil w _ _ _ _ _ underlying36]
 go_enter func279,ntmps279
 go_wp2_with (at_builtin;refine Lib.wpList_append_run _ rfl _ _ _ _ rfl _ _ rfl rfl _ _ hm ?_)
 all_goals go_ret
 exact⟨rfl,rfl⟩
theorem afE(xs:List (List UInt8))(hx:xs.length<=1073741824)(bP:List Ab.Obj)(Ω:Store):dw prog 279 [.c (.d (.sl (xs.map encS)))] (bP::Ω)
 (fun r S'=>r=.c (.bB (0,bP.length) (xs.map encS))/\S'=(bP++[.tok 1 (xs.map encS)])::Ω):=by
 have apD:(xs.map encS).length<=1073741824:=by simpa using hx
 have h1:=EC (xs:=xs)
 generalize xs.map encS=es at *
 refine⟨⟨_,func279,by kernel_rfl,by kernel_rfl⟩,fun w σ β vs hS hv=> ?_⟩;obtain⟨hl,h⟩:=hv;obtain⟨v,e0,hd,_⟩:=h 0 _ rfl;have hd:dJ w σ (.sl es) v:=hd
 have hvs:vs=[v]:=by
  match vs,hl,e0 with
  |[x],_,e0=>simp at e0;rw[e0]
 subst hvs
 cases β with
 |nil=>have:=hS.shape.1;simp at this
 |cons bo bΩ=>
 have hlen:bo.length=bP.length:=by
  obtain⟨gr,g1,g2⟩:=hS.shape.2 0 bP rfl;simp at g1;rw[g1];exact g2
 have hv:∃a c,v=.slice a es.length c/\(a=none->es=[]):=by
  cases hd with
  |nil a cap=>exact⟨a,cap,rfl,fun _=>rfl⟩
  |sl b off cap aW es vals c t fz=>exact⟨_,_,rfl,fun h=>by cases h⟩
 obtain⟨a,c,rfl,ha⟩:=hv
 cases a with
 |none=>
  have:=ha rfl;subst this;refine(acX c w).mono fun e w' ⟨he,hw⟩=> ?_;subst hw;obtain⟨hS',hk,hst⟩:=hS.push (o:=.tok 1 []) (h:=.slice none 0 0) (Grow.refl hS.live) hlen ⟨.nil _ _,by simp,none,0,rfl,by simp,.inl rfl⟩ (fun b hb=>by simp[owns,blk] at hb);refine⟨_,.c (.bB (0,bP.length) []),_,_,_,he,hS',hk,hst,⟨⟨.nil _ _,.tok 1 [],?_,fun aW es e=> ?_⟩,rfl⟩,rfl,rfl⟩
  ·rw[dx]
  ·obtain⟨_,rfl⟩:=oL (lab:=none) e;exact⟨Nat.le_refl _,fun _=>by rw[<-hlen,dx]⟩
 |some a=>
  have hσ:σ w.heap.size=0:=(hS.live w.heap.size).resolve_left (by omega)
  have hg:Grow w σ (w.alloc (.cells #[] 9)) σ:=by
   have hh:(w.alloc (.cells #[] 9)).heap=w.heap.push (.cells #[] 9):=rfl;refine⟨by rw[hh];simp,rfl,rfl,fun b hb=>⟨?_,rfl⟩,fun b=> ?_⟩
   ·rw[hh,Array.getElem?_push];rw[if_neg (by omega)]
   ·rcases hS.live b with hb|hb
    ·left;rw[hh];simp;omega
    ·exact .inr hb
  have FQ:iL (w.alloc (.cells #[] 9)) σ [] [] (.tok 1 []) (.slice (some ⟨w.heap.size,0,none⟩) 0 0):=⟨.nil _ _,by simp,_,0,rfl,by simp,.inl rfl⟩;obtain⟨r,w',σ',hr,hro,hsz,hos,hout,hn,hli,tL,hbk,hzero,h1c⟩:=zo (lab:=none) (P:=prog) (w:=w.alloc (.cells #[] 9)) (σ:=σ) (S:=[]) (β:=[]) (t:=36) (u:=36) (ty:=36) (e:=9) (size:=1) (es:=[]) (ys:=es) hg.live underlying36 (.inl ⟨_,underlying36⟩) ⟨[.d (.s [])],by kernel_rfl,rfl⟩ rfl (by decide +kernel) FQ (JJ (dJ.mono hg.near hd) h1) (by simpa using apD);rw[List.nil_append] at hro hbk;refine(acY w w' a es.length c r hr).mono fun e w'' ⟨he,hw⟩=> ?_;subst hw;have hg2:Grow (w.alloc (.cells #[] 9)) σ w'' σ':=⟨hsz,hos,hout,fun b hb=>tL b hb (by simp[jP,owns,blk]),hli⟩;have hg3:=hg.trans hg2
  obtain⟨hS',hk,hst⟩:=hS.push (o:=.tok 1 es) (h:=r) hg3 hlen (hro _ _) (fun b hb=>by
   rcases hbk b hb with h|h
   ·simp[jP,owns,blk] at h
   ·exact Nat.le_trans hg.size h)
  refine⟨_,.c (.bB (0,bP.length) es),_,_,_,he,hS',hk,hst,⟨⟨(hro [] []).1,.tok 1 es,?_,fun aW es' e=> ?_⟩,h1c⟩,rfl,rfl⟩
  ·rw[dx]
  ·obtain⟨_,rfl⟩:=oL (lab:=none) e;exact⟨Nat.le_refl _,fun _=>by rw[<-hlen,dx]⟩
theorem dw.args{P:Program}{f:FuncId}{args args':List V}{S:Store}{post:V->Store->Prop}(h:dw P f args' S post)(hl:vk args args'):dw P f args S post:=h.weaken hl.length fun j x y hx hy w σ β v hr=>hl.at j x y hx hy w σ S β v hr
theorem oq(n:Nat)(es:List (List D)):Less (.c (.lZ n es)) (.c (.d (.sl es))):=fun w σ S β v h=>⟨tK h.1.1,h.2⟩
theorem ou(xs:List (List UInt8))(hx:xs.length<=1073741824)(n q:Nat)(bP:List Ab.Obj)(Ω:Store):dw prog 125 [.c (.d (.sl (xs.map encS)))] (bP::Ω)
 (fun r S'=>r=.c (.bB (0,bP.length+1) (lx (aP xs) q))/\S'=(bP++[.seed n,.eu n 2 (lx (aP xs) q)])::Ω):=by
 refine acP (n) (rs:=[.tmp 2]) zmx func125 ntmps125 rfl rfl rfl rfl rfl ?_;refine W1 ?_;refine W3 ?_;refine lD n 3 2 [] (.inl rfl) (by simp) ?_
 refine aR (ι:=Nat) zmx rfl [3,7,8,9] (fun i=>[.c (.bB (0,1) (lx ((aP xs).take i) q)),.c (.d (.sl (xs.map encS))),.c (.d (.i .i64 xs.length)),.c (.d (.i .i64 i))]) (fun i=>[.seed n,.eu n 2 (lx ((aP xs).take i) q)]::bP::Ω)
  (fun i=>i<=xs.length) (fun i=>xs.length-i) 0 rfl rfl (Nat.zero_le _) ?_
 intro i hi;refine W1 ?_;refine S0 (fun hb h=>?_) fun hb h=>?_
 ·have hi':i<xs.length:=by omega
  have hw:i<(aP xs).length:=by rw[jA];exact hi'
  have hg:(aP xs)[i]=bF xs[i]:=by simp[aP]
  have hl:(lx ((aP xs).take i) q).length<=i:=by rw[gH];exact List.length_take_le _ _
  refine W3 ?_;refine C1 (cO xs[i] (q+iQ ((aP xs).take i))) ?_;refine W3 ?_;have hs:=Rm hw q;rw[hg,wR] at hs;rw[hs];exact bV (i+1) (by omega) rfl rfl (by omega)
 ·have hi':i=(aP xs).length:=by rw[jA];omega
  rw[hi',List.take_length];exact⟨rfl,rfl⟩
theorem afG(base:Option Addr)(n:Nat)(h1:1<=n)(hn:n<=1073741824)(w:World):Calls prog 234 #[.slice base 0 0,.int .i64 n] w fun e w'=>
 ∃cap row,n<=cap/\row.size=cap*2/\e=.returned (.slice (some ⟨w.heap.size,0,none⟩) 0 cap)/\w'={w.drew with heap:=w.heap.push (.cells row 64)}:=by
 obtain⟨cap,row,hc,hr,hm⟩:=KF (P:=prog) (w:=w) (t:=62) (u:=3) (ty:=62) (e:=64) (base:=base) (n:=n) underlying62 underlying3 rfl rfl h1 hn (by decide +kernel) rfl
 have h0:¬((n:Int)<0):=by omega
 have h2:(0:Int)<n:=by omega
 go_enter func234,ntmps234
 go_wp2_with (at_builtin;refine Lib.wpList_append_run _ rfl _ _ _ _ rfl _ _ rfl rfl _ _ hm ?_)
 all_goals go_ret
 exact⟨cap,hc,row,hr,rfl,rfl⟩
theorem acZ(base:Option Addr)(w:World):Calls prog 234 #[.slice base 0 0,.int .i64 0] w fun e w'=>e=.returned (.slice base 0 0)/\w'=w:=by
 go_enter func234,ntmps234
 go_wp2
 all_goals go_ret
 exact⟨rfl,rfl⟩
theorem afH(m n:Nat)(hn:n<=1073741824)(bP:List Ab.Obj)(Ω:Store):dw prog 234 [.c (.bn []),.c (.d (.i .i64 n))] (bP::Ω)
 (fun r S'=>r=.c (.bB (0,bP.length) [])/\S'=(bP++[.eu m 2 []])::Ω):=by
 refine⟨⟨_,func234,by kernel_rfl,by kernel_rfl⟩,fun w σ β vs hS hv=> ?_⟩;obtain⟨hl,h⟩:=hv;obtain⟨v0,e0,⟨h0,a,m',h00⟩,_⟩:=h 0 _ rfl;obtain⟨v1,e1,h1,_⟩:=h 1 _ rfl
 have h1':v1=.int .i64 n:=by cases h1;rfl
 subst h1'
 have hm:m'=0:=by rw[h00] at h0;cases h0<;>rfl
 subst hm;subst h00
 have hvs:vs=[.slice a 0 0,.int .i64 n]:=by
  match vs,hl,e0,e1 with
  |[x,y],_,e0,e1=>simp at e0 e1;rw[e0,e1]
 subst hvs
 cases β with
 |nil=>have:=hS.shape.1;simp at this
 |cons bo bΩ=>
 have hlen:bo.length=bP.length:=by
  obtain⟨gr,g1,g2⟩:=hS.shape.2 0 bP rfl;simp at g1;rw[g1];exact g2
 by_cases hz:n=0
 ·subst hz;refine(acZ a w).mono fun e w' ⟨he,hw⟩=> ?_;subst hw;obtain⟨hS',hk,hst⟩:=hS.push (o:=.eu m 2 []) (h:=.slice a 0 0) (Grow.refl hS.live) hlen ⟨h0,by simp,a,0,rfl,by simp,.inl ⟨rfl,.x9 _ _ _⟩⟩ (fun b hb=>by cases a<;>simp[owns,blk] at hb);refine⟨_,.c (.bB (0,bP.length) []),_,_,_,he,hS',hk,hst,⟨⟨h0,.eu m 2 [],?_,fun aW es e=> ?_⟩,rfl⟩,rfl,rfl⟩
  ·rw[dx]
  ·obtain⟨_,rfl⟩:=oL (lab:=some m) e;exact⟨Nat.le_refl _,fun _=>by rw[<-hlen,dx]⟩
 ·refine(afG a n (by omega) hn w).mono fun e w' ⟨cap,row,hc,hr,he,hw⟩=> ?_;subst hw;have hσ:σ w.heap.size=0:=(hS.live w.heap.size).resolve_left (by omega)
  have hg:Grow w σ {w.drew with heap:=w.heap.push (.cells row 64)} σ:=by
   refine⟨by simp,rfl,rfl,fun b hb=>⟨?_,rfl⟩,fun b=> ?_⟩
   ·simp only[Array.getElem?_push];rw[if_neg (by omega)]
   ·rcases hS.live b with hb|hb
    ·left;simp;omega
    ·exact .inr hb
  obtain⟨hS',hk,hst⟩:=hS.push (o:=.eu m 2 []) (h:=.slice (some ⟨w.heap.size,0,none⟩) 0 cap) hg hlen ⟨.nil _ _,by simp,_,cap,rfl,by simp,.inr ⟨by simp;omega,w.heap.size,0,row,64,rfl,by simp,by simp[hσ],by omega⟩⟩ (fun b hb=>by
   simp only[owns,blk] at hb;split at hb
   ·cases hb
   ·cases hb;exact Nat.le_refl _)
  refine⟨_,.c (.bB (0,bP.length) []),_,_,_,he,hS',hk,hst,⟨⟨.nil _ _,.eu m 2 [],?_,fun aW es e=> ?_⟩,rfl⟩,rfl,rfl⟩
  ·rw[dx]
  ·obtain⟨_,rfl⟩:=oL (lab:=some m) e;exact⟨Nat.le_refl _,fun _=>by rw[<-hlen,dx]⟩
theorem Zk(m l:Nat)(xss:List (Nat×List (List D)))(hl:xss.length<=1073741824)(hr:∀p∈xss,∀r∈p.2,r.length=2)(hf:(xss.map (·.2)).flatten.length<=1073741824):aC prog 188 [.c (.lZ l (xss.map fun p=>[.ol p.1 p.2]))] (.c (.d (.ol m (xss.map (·.2)).flatten))):=fun S=>by
 obtain⟨ys,hys⟩:∃ys:List (List (List D)),ys=xss.map (·.2):=⟨_,rfl⟩;rw[<-hys] at hf ⊢
 have hyl:ys.length=xss.length:=by rw[hys,List.length_map]
 have hyi:∀i (hi:i<xss.length),ys[i]'(by omega)=xss[i].2:=fun i hi=>by simp[hys]
 have N9:∀i (hi:i<xss.length),∀r∈xss[i].2,r.length=2:=fun i hi=>hr _ (List.getElem_mem hi);refine lU (m) (rs:=[.tmp 2]) zmx func188 ntmps188 rfl rfl rfl rfl rfl ?_;refine W1 ?_
 refine aR (ι:=Nat) zmx rfl [0,3,9,10,11] (fun i=>[.c (.lZ l (xss.map fun p=>[.ol p.1 p.2])),.c (.d (.i .i64 (ys.take i).flatten.length)),.c (.lZ l (xss.map fun p=>[.ol p.1 p.2])),.c (.d (.i .i64 xss.length)),.c (.d (.i .i64 i))]) (fun _=>[.seed m]::S)
  (fun i=>i<=xss.length) (fun i=>xss.length-i) 0 rfl rfl (Nat.zero_le _) ?_
 rintro i p1;have hfi:=yY ys i;by_cases hi:i<xss.length
 ·have hs:=IX ys (i:=i) (by omega);rw[hyi i hi] at hs;have ai6:=yY ys (i+1);refine W1 ?_;refine S0 (fun hb h=>?_) fun hb h=>?_
  ·refine W3 ?_;refine S0 (fun hb h=>?_) fun hb h=>?_
   ·omega
   ·refine bV (i+1) (by omega) ?_ rfl (by omega);rw[hs];rfl
  ·omega
 have hi:i=xss.length:=by omega
 subst hi;refine W1 ?_;refine S0 (fun hb h=>?_) fun hb h=>?_
 ·omega
 rw[<-hyl,List.take_length];clear hfi;refine cK rfl (afH m ys.flatten.length hf [.seed m] S) ?_;refine W1 ?_
 refine aR (ι:=Nat) zmx rfl [6,25,26,27] (fun i=>[.c (.bB (0,1) (ys.take i).flatten),.c (.lZ l (xss.map fun p=>[.ol p.1 p.2])),.c (.d (.i .i64 xss.length)),.c (.d (.i .i64 i))]) (fun i=>[.seed m,.eu m 2 (ys.take i).flatten]::S)
  (fun i=>i<=xss.length) (fun i=>xss.length-i) 0 (by rw[<-hyl];rfl) rfl (Nat.zero_le _) ?_
 rintro i p1;have hfi:=yY ys i;by_cases hi:i<xss.length
 ·have hs:=IX ys (i:=i) (by omega);rw[hyi i hi] at hs;have ai6:=yY ys (i+1)
  have e:(ys.take (i+1)).flatten=(ys.take i).flatten++xss[i].2:=by
   rw[List.take_succ_eq_append_getElem (by omega),List.flatten_append,hyi i hi];simp only[List.flatten_cons,List.flatten_nil,List.append_nil]
  have Cb:=N9 i hi;refine W1 ?_;refine S0 (fun hb h=>?_) fun hb h=>?_
  ·refine W3 ?_;exact bV (i+1) (by omega) (by rw[e];rfl) (by rw[e]) (by omega)
  ·omega
 ·have hi:i=ys.length:=by omega
  refine W1 ?_;refine S0 (fun hb h=>?_) fun hb h=>?_
  ·omega
  rw[hi,List.take_length]
theorem kT{x:ay}{k:Int}(h:x.aM=k):jo x.aM x.bG x.fName x.fType=jo k x.bG x.fName x.fType:=by rw[h]
theorem S9{l:List ay}{t:ay}(h:t∈l):t.sz<=vo l:=by
 rw[<-Np];exact cB (List.mem_map_of_mem h)
theorem PK{l:List aZ}{t:aZ}(h:t∈l):t.sz<=CU l:=by
 rw[<-Nq];exact cB (List.mem_map_of_mem h)
theorem F6:∀{xs:List ay},mK xs=true<->∀t∈xs,iV t=true
 |[]=>by simp[mK]
 |t::ts=>by simp[mK,F6 (xs:=ts)]
theorem IY:∀{xs:List aZ},pU xs=true<->∀t∈xs,xu t=true
 |[]=>by simp[pU]
 |t::ts=>by simp[pU,IY (xs:=ts)]
theorem mh{x:ay}(h1:x.aM≠1)(h2:x.aM≠2)(h3:x.aM≠3)(h:x.aM=4\/x.aM=5\/x.aM=6\/x.aM=8\/x.aM=9\/x.aM=10\/x.aM=11\/x.aM=12):
 fu x=bq (jo x.aM x.bG x.fName x.fType++x.fArgs.map fu):=by rw[KC,if_neg h1,if_neg h2,if_neg h3,if_pos h,List.append_nil]
theorem PN:∀N:Nat,∀x:ay,SizeOf.sizeOf x<N->∀n:Nat,iV x=true->x.sz<=4194304->aC prog 128 [x.v] (.agg [.d (.s (fu x).aG),.d (.ol n (lx (fu x).ah (n+1)))])
 |0=>fun x h=>by omega
 |N+1=>by
  have ih:=PN N;intro x hn n hok hsz S;have kG:=ay.jv x;have Di:=ay.vH x;have hzz:=yF x;rw[yQ,Bool.and_eq_true,Bool.and_eq_true] at hok;obtain⟨hfi,hoa,Xa⟩:=hok;have hfi:=gq hfi;have hoa:=F6.1 hoa;have Xa:=IY.1 Xa;obtain⟨qa,Ah⟩:∃qa,qa=n+1+iQ (jo x.aM x.bG x.fName x.fType):=⟨_,rfl⟩;obtain⟨T,hT⟩:∃T:Nat->List (List D),T=fun i=>lx ((x.fArgs.map fu).take i) qa:=⟨_,rfl⟩
  have hT0:T 0=[]:=by rw[hT];rfl
  have fP:∀i,(T i).length<=i:=fun i=>by rw[hT];simp only[gH];exact List.length_take_le _ _
  have hTr:∀i,∀r∈T i,r.length=2:=fun i=>by rw[hT];exact kM
  have hTs:∀i (hi:i<x.fArgs.length),T i++[[.s (fu x.fArgs[i]).aG,.ol (qa+iQ ((x.fArgs.map fu).take i)) (lx (fu x.fArgs[i]).ah (qa+iQ ((x.fArgs.map fu).take i)+1))]]=T (i+1):=fun i hi=>by
   have:=AA (l:=x.fArgs.map fu) (i:=i) (by rw[List.length_map];exact hi) qa;rw[List.getElem_map] at this;rw[hT];exact this
  have hTe:T x.fArgs.length=lx (x.fArgs.map fu) qa:=by rw[hT];simp only;rw[List.take_of_length_le (by simp)]
  clear hT;refine lU (n) (rs:=[.cell 2 64]) zmx func128 ntmps128 rfl rfl rfl rfl rfl ?_;refine W1 ?_;refine W3 ?_;refine lD n 3 2 [] (.inl rfl) (by simp) ?_
  refine aR (ι:=Nat) zmx rfl [1,2,3,11,12,13] (fun i=>[.c (.ptr (0,1) 0),.c (.ptr (0,2) 0),.c (.bB (0,3) (T i)),.c (.d (.sl (x.fArgs.map ay.enc))),.c (.d (.i .i64 x.fArgs.length)),.c (.d (.i .i64 i))])
   (fun i=>[.seed n,.box [.d (.i .i64 x.aM),.d (.s x.bG),.d (.s x.fName),.d (.i .i64 x.fN),.d (.i .i64 x.fType.aM),.d (.s x.fType.fName),.d (.sl (x.fType.fArgs.map ak.enc)),.d (.sl (x.fArgs.map ay.enc)),.d (.sl (x.aS.map aZ.enc))],.box [.d (.s []),.bn []],.eu n 2 (T i)]::S)
   (fun i=>i<=x.fArgs.length) (fun i=>x.fArgs.length-i) 0 (by rw[hT0];rfl) (by rw[hT0];rfl) (Nat.zero_le _) ?_
  intro i hi;have hl:=fP i;refine W1 ?_;refine S0 (fun hb h=>?_) fun hb h=>?_
  ·have hi':i<x.fArgs.length:=by omega
   have hm:=List.getElem_mem hi';have hez:=S9 hm;have hs:=hTs i hi';refine W3 ?_;refine C1 (ih x.fArgs[i] (by have:=List.sizeOf_lt_of_mem hm;omega) (qa+iQ ((x.fArgs.map fu).take i)) (hoa _ hm) (by omega)) ?_;refine W3 ?_;rw[hs];exact bL 4 (by decide) (i+1) (by omega) rfl rfl rfl rfl (by omega)
  have hi':i=x.fArgs.length:=by omega
  subst hi';clear hTs hi h hb;have hTT:=hTr x.fArgs.length;have hxe:=KC x;refine S0 (fun hb h=>?_) fun hb h=>?_
  ·rw[if_pos h] at hxe;rw[hxe];have hb:=hfi.2.2.2.1;rw[if_pos h] at hb;refine C1 (Nr x.fN (by omega) (by omega)) ?_;refine C1 (cO _ n) ?_;rfl
  have k1:=h;rw[if_neg h] at hxe;refine S0 (fun hb h=>?_) fun hb h=>?_
  ·rw[if_pos h] at hxe;rw[hxe];refine S0 (fun hb h=>?_) fun hb h=>?_
   ·rw[if_pos h];refine C1 (cO _ n) ?_;rfl
   ·rw[if_neg h];refine C1 (cO _ n) ?_;rfl
  have k2:=h;rw[if_neg h] at hxe;refine S0 (fun hb h=>?_) fun hb h=>?_
  ·rw[if_pos h] at hxe;rw[hxe];refine C1 (cO _ n) ?_;rfl
  have k3:=h;clear hxe;refine S0 (fun hb h=>?_) fun hb h=>?_
  ·have hx:=mh k1 k2 k3 (by omega)
   have hh:jo x.aM x.bG x.fName x.fType=aP [pJ,x.fName]:=by rw[kT h];rfl
   rw[hh] at hx Ah;refine W3 ?_;refine cK rfl (dw.args (ou [pJ,x.fName] (by simp) n (n+1) _ _) (.cons (oq n _) .nil)) ?_
   have Jt:(lx (aP [pJ,x.fName]) (n+1)).length=2:=by rw[gH];rfl
   have Ta:=kM (l:=aP [pJ,x.fName]) (n:=n+1);refine W1 ?_;refine W3 ?_;refine cK rfl (kg 0 5 _ _) ?_;refine W1 ?_;rw[hx,hTe,Ah,dW,bY,lV]
  have k4:=h;refine S0 (fun hb h=>?_) fun hb h=>?_
  ·have hx:=mh k1 k2 k3 (by omega)
   have hh:jo x.aM x.bG x.fName x.fType=aP [jw,x.bG,x.fName]:=by rw[kT h];rfl
   rw[hh] at hx Ah;refine W3 ?_;refine cK rfl (dw.args (ou [jw,x.bG,x.fName] (by simp) n (n+1) _ _) (.cons (oq n _) .nil)) ?_
   have Jt:(lx (aP [jw,x.bG,x.fName]) (n+1)).length=3:=by rw[gH];rfl
   have Ta:=kM (l:=aP [jw,x.bG,x.fName]) (n:=n+1);refine W1 ?_;refine W3 ?_;refine cK rfl (kg 0 5 _ _) ?_;refine W1 ?_;rw[hx,hTe,Ah,dW,bY,lV]
  have k5:=h;refine S0 (fun hb h=>?_) fun hb h=>?_
  ·have hx:=mh k1 k2 k3 (by omega)
   have hh:jo x.aM x.bG x.fName x.fType=aP [sU,x.fName]:=by rw[kT h];rfl
   rw[hh] at hx Ah;refine W3 ?_;refine cK rfl (dw.args (ou [sU,x.fName] (by simp) n (n+1) _ _) (.cons (oq n _) .nil)) ?_
   have Jt:(lx (aP [sU,x.fName]) (n+1)).length=2:=by rw[gH];rfl
   have Ta:=kM (l:=aP [sU,x.fName]) (n:=n+1);refine W1 ?_;refine W3 ?_;refine cK rfl (kg 0 5 _ _) ?_;refine W1 ?_;rw[hx,hTe,Ah,dW,bY,lV]
  have k6:=h;refine S0 (fun hb h=>?_) fun hb h=>?_
  ·have hx:=KC x;rw[if_neg k1,if_neg k2,if_neg k3,if_neg (by omega)] at hx
   have hh:jo x.aM x.bG x.fName x.fType=aP [lI]:=by rw[kT h];rfl
   rw[hh] at hx Ah;obtain⟨B,hB⟩:∃B:Nat->List (List D),B=fun i=>lx (x.fArgs.map fu++(x.aS.map Ag).take i) qa:=⟨_,rfl⟩;obtain⟨L,hL⟩:∃L:Nat->Nat,L=fun i=>qa+iQ (x.fArgs.map fu++(x.aS.map Ag).take i):=⟨_,rfl⟩
   have hB0:T x.fArgs.length=B 0:=by rw[hTe,hB];simp only[List.take_zero,List.append_nil]
   have hBl:∀i,(B i).length<=i+x.fArgs.length:=fun i=>by
    rw[hB];simp only[gH,List.length_append,List.length_map];have:=List.length_take_le i (x.aS.map Ag);omega
   have hBr:∀i,∀r∈B i,r.length=2:=fun i=>by rw[hB];exact kM
   have hBs:∀i (hi:i<x.aS.length),B i++[[.s [],.ol (L i) (lx ([bF x.aS[i].dO]++aP x.aS[i].aF++[fu x.aS[i].fBody]) (L i+1))]]=B (i+1):=fun i hi=>by
    have:=AB (base:=x.fArgs.map fu) (l:=x.aS.map Ag) (i:=i) (by rw[List.length_map];exact hi) qa;rw[List.getElem_map,afz,dW,bY] at this;rw[hB,hL];exact this
   have hBe:B x.aS.length=lx (x.fArgs.map fu++x.aS.map Ag) qa:=by rw[hB];simp only;rw[List.take_of_length_le (by simp)]
   clear hB hL hTT;refine W3 ?_;refine cK rfl (dw.args (ou [lI] (by simp) n (n+1) _ _) (.cons (oq n _) .nil)) ?_
   have Jt:(lx (aP [lI]) (n+1)).length=1:=by rw[gH];rfl
   have Ta:=kM (l:=aP [lI]) (n:=n+1);refine W1 ?_;rw[hB0];obtain⟨HD,hHD⟩:∃HD,HD=lx (aP [lI]) (n+1):=⟨_,rfl⟩;rw[<-hHD] at Jt Ta ⊢
   refine aR (ι:=Nat) zmx rfl [2,3,6,69,70,71] (fun i=>[.c (.ptr (0,2) 0),.c (.bB (0,3) (B i)),.c (.bB (0,5) HD),.c (.d (.sl (x.aS.map aZ.enc))),.c (.d (.i .i64 x.aS.length)),.c (.d (.i .i64 i))])
    (fun i=>[.seed n,.box [.d (.i .i64 x.aM),.d (.s x.bG),.d (.s x.fName),.d (.i .i64 x.fN),.d (.i .i64 x.fType.aM),.d (.s x.fType.fName),.d (.sl (x.fType.fArgs.map ak.enc)),.d (.sl (x.fArgs.map ay.enc)),.d (.sl (x.aS.map aZ.enc))],.box [.d (.s []),.bn []],.eu n 2 (B i),.seed n,.eu n 2 HD]::S)
    (fun i=>i<=x.aS.length) (fun i=>x.aS.length-i) 0 rfl rfl (Nat.zero_le _) ?_
   intro i hi;have hl:=hBl i;have hr:=hBr i;refine W1 ?_;refine S0 (fun hb h=>?_) fun hb h=>?_
   ·have hi':i<x.aS.length:=by omega
    have hm:=List.getElem_mem hi';have hez:=PK hm;have hea:=Ca x.aS[i];have hs:=hBs i hi';have hak:=Xa _ hm;rw[sS,Bool.and_eq_true,Bool.and_eq_true] at hak;have hls:=List.sizeOf_lt_of_mem hm;have hlb:=aZ.tV x.aS[i];refine W3 ?_;refine jY (Cy [x.aS[i].dO] (by simp) 0 (L i+1)) (.cons (oq n _) .nil) ?_;refine W1 ?_;refine C1 (Cy x.aS[i].aF (by omega) 0 (L i+1+iQ (aP [x.aS[i].dO]))) ?_;refine C1 (ih x.aS[i].fBody (by omega) (L i+1+iQ (aP [x.aS[i].dO]++aP x.aS[i].aF)) hak.2.2 (by omega)) ?_;refine W3 ?_;refine aX (Zk (L i) n [(0,lx (aP [x.aS[i].dO]) (L i+1)),(0,lx (aP x.aS[i].aF) (L i+1+iQ (aP [x.aS[i].dO]))),(n,[[.s (fu x.aS[i].fBody).aG,.ol (L i+1+iQ (aP [x.aS[i].dO]++aP x.aS[i].aF)) (lx (fu x.aS[i].fBody).ah (L i+1+iQ (aP [x.aS[i].dO]++aP x.aS[i].aF)+1))]])] (by simp) ?_ ?_) ?_
    ·intro p hp;simp only[List.mem_cons,List.not_mem_nil,or_false] at hp;rcases hp with rfl|rfl|rfl
     ·exact kM
     ·exact kM
     ·simp
    ·simp only[List.map_cons,List.map_nil,List.flatten_cons,List.flatten_nil,List.length_append,gH,jA,List.length_cons,List.length_nil];omega
    refine W1 ?_;refine C1 (lq _) ?_;refine W3 ?_
    have hrow:[lx (aP [x.aS[i].dO]) (L i+1),lx (aP x.aS[i].aF) (L i+1+iQ (aP [x.aS[i].dO])),[[.s (fu x.aS[i].fBody).aG,.ol (L i+1+iQ (aP [x.aS[i].dO]++aP x.aS[i].aF)) (lx (fu x.aS[i].fBody).ah (L i+1+iQ (aP [x.aS[i].dO]++aP x.aS[i].aF)+1))]]].flatten=lx ([bF x.aS[i].dO]++aP x.aS[i].aF++[fu x.aS[i].fBody]) (L i+1):=by
     have e1:[bF x.aS[i].dO]=aP [x.aS[i].dO]:=rfl;rw[e1,lV,lV,jK (fu x.aS[i].fBody) [],ny,jJ (fu x.aS[i].fBody)];simp only[List.flatten_cons,List.flatten_nil,List.append_nil,List.append_assoc]
    rw[hrow,hs];exact bL 6 (by decide) (i+1) (by omega) rfl rfl rfl rfl (by omega)
   ·have hi':i=x.aS.length:=by omega
    subst hi';have hr2:=hBr x.aS.length;refine W3 ?_;refine cK rfl (kg 0 5 _ _) ?_;refine W1 ?_;rw[hx,hBe,Ah,hHD,dW,bY,List.append_assoc,lV (aP [lI])]
  have k7:=h;refine S0 (fun hb h=>?_) fun hb h=>?_
  ·have hx:=mh k1 k2 k3 (by omega)
   have hh:jo x.aM x.bG x.fName x.fType=aP [sV,x.fName]:=by rw[kT h];rfl
   rw[hh] at hx Ah;refine W3 ?_;refine cK rfl (dw.args (ou [sV,x.fName] (by simp) n (n+1) _ _) (.cons (oq n _) .nil)) ?_
   have Jt:(lx (aP [sV,x.fName]) (n+1)).length=2:=by rw[gH];rfl
   have Ta:=kM (l:=aP [sV,x.fName]) (n:=n+1);refine W1 ?_;refine W3 ?_;refine cK rfl (kg 0 5 _ _) ?_;refine W1 ?_;rw[hx,hTe,Ah,dW,bY,lV]
  have k8:=h;refine S0 (fun hb h=>?_) fun hb h=>?_
  ·have hx:=mh k1 k2 k3 (by omega)
   have hh:jo x.aM x.bG x.fName x.fType=aP [xU]:=by rw[kT h];rfl
   rw[hh] at hx Ah;refine W3 ?_;refine cK rfl (dw.args (ou [xU] (by simp) n (n+1) _ _) (.cons (oq n _) .nil)) ?_
   have Jt:(lx (aP [xU]) (n+1)).length=1:=by rw[gH];rfl
   have Ta:=kM (l:=aP [xU]) (n:=n+1);refine W1 ?_;refine W3 ?_;refine cK rfl (kg 0 5 _ _) ?_;refine W1 ?_;rw[hx,hTe,Ah,dW,bY,lV]
  have k9:=h;refine S0 (fun hb h=>?_) fun hb h=>?_
  ·have hx:=mh k1 k2 k3 (by omega)
   have hh:jo x.aM x.bG x.fName x.fType=aP [x.fName]:=by rw[kT h];rfl
   rw[hh] at hx Ah;refine W3 ?_;refine cK rfl (dw.args (ou [x.fName] (by simp) n (n+1) _ _) (.cons (oq n _) .nil)) ?_
   have Jt:(lx (aP [x.fName]) (n+1)).length=1:=by rw[gH];rfl
   have Ta:=kM (l:=aP [x.fName]) (n:=n+1);refine W1 ?_;refine W3 ?_;refine cK rfl (kg 0 5 _ _) ?_;refine W1 ?_;rw[hx,hTe,Ah,dW,bY,lV]
  have k10:=h;refine S0 (fun hb h=>?_) fun hb h=>?_
  ·have hx:=mh k1 k2 k3 (by omega)
   have hh:jo x.aM x.bG x.fName x.fType=aP [pK,x.bG]:=by rw[kT h];rfl
   rw[hh] at hx Ah;refine W3 ?_;refine cK rfl (dw.args (ou [pK,x.bG] (by simp) n (n+1) _ _) (.cons (oq n _) .nil)) ?_
   have Jt:(lx (aP [pK,x.bG]) (n+1)).length=2:=by rw[gH];rfl
   have Ta:=kM (l:=aP [pK,x.bG]) (n:=n+1);refine W1 ?_;refine W3 ?_;refine cK rfl (kg 0 5 _ _) ?_;refine W1 ?_;rw[hx,hTe,Ah,dW,bY,lV]
  have k11:=h;refine S0 (fun hb h=>?_) fun hb h=>?_
  ·have hx:=mh k1 k2 k3 (by omega)
   have hh:jo x.aM x.bG x.fName x.fType=[bF ug,bZ x.fType]:=by rw[kT h];rfl
   rw[hh] at hx Ah;have hty:=hfi.2.2.2.2.1;rw[if_pos h] at hty;refine C1 (cO _ (n+1)) ?_;refine C1 (lY x.fType (n+1+1) (wL hty) (by omega)) ?_;refine W3 ?_;refine cK rfl (kg 0 4 _ _) ?_;refine W1 ?_;rw[hx,hTe,Ah,dW,bY,lV];simp only[jK,ny,jJ,kX,kY,jZ,acR,afy,ug,List.cons_append,List.nil_append]
  ·have:=hfi.1;omega
theorem zV(x:ay)(n:Nat)(hok:iV x=true)(hsz:x.sz<=4194304):aC prog 128 [x.v] (.agg [.d (.s (fu x).aG),.d (.ol n (lx (fu x).ah (n+1)))]):=PN _ x (Nat.lt_succ_self _) n hok hsz
theorem q9(hd:List aj)(xs:List ay)(S:Store)(hA:∀t∈xs,aC prog 137 [t.v] (fu t).v)(hl:xs.length<=4194304)(hh:hd.length<=4):dw prog 193 [.c (.bn (hd.map aj.enc)),.c (.d (.sl (xs.map ay.enc)))] S
 (fun r S'=>r=.agg [.d (.s []),.d (.sl ((hd++xs.map fu).map aj.enc))]/\S'=S):=by
 obtain⟨T,hT⟩:∃T:Nat->List (List D),T=fun i=>(hd++(xs.map fu).take i).map aj.enc:=⟨_,rfl⟩
 have hT0:T 0=hd.map aj.enc:=by rw[hT];simp only[List.take_zero,List.append_nil]
 have fP:∀i,(T i).length<=i+hd.length:=fun i=>by
  rw[hT];simp only[List.length_map,List.length_append];have:=List.length_take_le i (xs.map fu);omega
 have hTs:∀i (hi:i<xs.length),T i++[[.s (fu xs[i]).aG,.sl ((fu xs[i]).ah.map aj.enc)]]=T (i+1):=fun i hi=>by
  have:=ji (base:=hd) (l:=xs.map fu) (i:=i) (by rw[List.length_map];exact hi);rw[List.getElem_map] at this;rw[hT];exact this
 have hTe:T xs.length=(hd++xs.map fu).map aj.enc:=by rw[hT];simp only;rw[List.take_of_length_le (by simp)]
 clear hT;rw[<-hT0];rw[<-hTe];refine zcx [.cell 4 64] func193 ntmps193 ?_;refine W1 ?_;refine su 1 1 2 (T 0) [.d (.s []),.bn (T 0)] rfl rfl (by rw[hT0];exact gJ) ?_
 refine aR (ι:=Nat) zmx rfl [1,4,5,6] (fun i=>[.c (.d (.sl (xs.map ay.enc))),.c (.ptr (0,0) 0),.c (.ptr (0,1) 0),.c (.d (.i .i64 i))])
  (fun i=>[.box [.d (.s []),.bn []],.box [.d (.s []),.bB (0,2) (T i)],.tok 2 (T i)]::S)
  (fun i=>i<=xs.length) (fun i=>xs.length-i) 0 rfl rfl (Nat.zero_le _) ?_
 intro i hi;have hl:=fP i;refine W1 ?_;refine S0 (fun hb h=>?_) fun hb h=>?_
 ·have hi':i<xs.length:=by omega
  have hs:=hTs i hi';refine W3 ?_;refine C1 (hA xs[i] (List.getElem_mem hi')) ?_;refine W3 ?_;rw[hs];exact bV (i+1) (by omega) rfl rfl (by omega)
 ·have hi':i=xs.length:=by omega
  subst hi';rfl
theorem Xb(hd:List aj)(xs:List ay)(bP:List Ab.Obj)(Ω:Store)(hA:∀t∈xs,aC prog 137 [t.v] (fu t).v)(hl:xs.length<=4194304)(hh:hd.length<=4):dw prog 193 [.c (.bn (hd.map aj.enc)),.c (.d (.sl (xs.map ay.enc)))] (bP::Ω)
 (fun r S'=>r=.agg [.d (.s []),.bB (0,bP.length+2) ((hd++xs.map fu).map aj.enc)]/\S'=(bP++[.box [.d (.s []),.bB (0,bP.length+2) ((hd++xs.map fu).map aj.enc)],.box [.d (.s []),.bB (0,bP.length+2) ((hd++xs.map fu).map aj.enc)],.tok 2 ((hd++xs.map fu).map aj.enc)])::Ω):=by
 obtain⟨T,hT⟩:∃T:Nat->List (List D),T=fun i=>(hd++(xs.map fu).take i).map aj.enc:=⟨_,rfl⟩
 have hT0:T 0=hd.map aj.enc:=by rw[hT];simp only[List.take_zero,List.append_nil]
 have fP:∀i,(T i).length<=i+hd.length:=fun i=>by
  rw[hT];simp only[List.length_map,List.length_append];have:=List.length_take_le i (xs.map fu);omega
 have hTs:∀i (hi:i<xs.length),T i++[[.s (fu xs[i]).aG,.sl ((fu xs[i]).ah.map aj.enc)]]=T (i+1):=fun i hi=>by
  have:=ji (base:=hd) (l:=xs.map fu) (i:=i) (by rw[List.length_map];exact hi);rw[List.getElem_map] at this;rw[hT];exact this
 have hTe:T xs.length=(hd++xs.map fu).map aj.enc:=by rw[hT];simp only;rw[List.take_of_length_le (by simp)]
 clear hT;rw[<-hT0];rw[<-hTe];refine J9 (rs:=[.cell 4 64]) zmx func193 ntmps193 rfl rfl rfl rfl rfl ?_;refine W1 ?_;refine su 1 1 2 (T 0) [.d (.s []),.bn (T 0)] rfl rfl (by rw[hT0];exact gJ) ?_
 refine aR (ι:=Nat) zmx rfl [1,4,5,6] (fun i=>[.c (.d (.sl (xs.map ay.enc))),.c (.ptr (0,0) 0),.c (.ptr (0,1) 0),.c (.d (.i .i64 i))])
  (fun i=>[.box [.d (.s []),.bn []],.box [.d (.s []),.bB (0,2) (T i)],.tok 2 (T i)]::bP::Ω)
  (fun i=>i<=xs.length) (fun i=>xs.length-i) 0 rfl rfl (Nat.zero_le _) ?_
 intro i hi;have hl:=fP i;refine W1 ?_;refine S0 (fun hb h=>?_) fun hb h=>?_
 ·have hi':i<xs.length:=by omega
  have hs:=hTs i hi';refine W3 ?_;refine C1 (hA xs[i] (List.getElem_mem hi')) ?_;refine W3 ?_;rw[hs];exact bV (i+1) (by omega) rfl rfl (by omega)
 ·have hi':i=xs.length:=by omega
  subst hi';exact⟨rfl,rfl⟩
theorem PO:∀N:Nat,∀x:ay,SizeOf.sizeOf x<N->iV x=true->x.sz<=4194304->aC prog 137 [x.v] (fu x).v
 |0=>fun x h=>by omega
 |N+1=>by
  have ih:=PO N;intro x hn hok hsz S;have kG:=ay.jv x;have Di:=ay.vH x;have hzz:=yF x;rw[yQ,Bool.and_eq_true,Bool.and_eq_true] at hok;obtain⟨hfi,hoa,Xa⟩:=hok;have hfi:=gq hfi;have hoa:=F6.1 hoa;have Xa:=IY.1 Xa;have hA:∀t∈x.fArgs,aC prog 137 [t.v] (fu t).v:=fun t ht=>ih t (by have:=List.sizeOf_lt_of_mem ht;omega) (hoa t ht) (by have:=S9 ht;omega);have hxe:=KC x;refine zcx [.cell 2 64] func137 ntmps137 ?_;refine W1 ?_;refine S0 (fun hb h=>?_) fun hb h=>?_
  ·rw[if_pos h] at hxe;rw[hxe];have hb:=hfi.2.2.2.1;rw[if_pos h] at hb;refine C1 (yG x.fN (by omega) (by omega)) ?_;refine C1 (bN _) ?_;rfl
  have k1:=h;rw[if_neg h] at hxe;refine S0 (fun hb h=>?_) fun hb h=>?_
  ·rw[if_pos h] at hxe;rw[hxe];have hb:=hfi.2.2.2.1;rw[if_neg k1,if_pos h] at hb;rcases hb with e|e
   ·rw[e];simp -implicitDefEqProofs (disch:=omega) only[go_sem,List.getD_cons_zero];refine W3 ?_;refine C1 (bN _) ?_;rfl
   ·rw[e];simp -implicitDefEqProofs (disch:=omega) only[go_sem,List.getD_cons_zero,List.getD_cons_succ];refine W3 ?_;refine C1 (bN _) ?_;rfl
  have k2:=h;rw[if_neg h] at hxe;refine S0 (fun hb h=>?_) fun hb h=>?_
  ·rw[if_pos h] at hxe;rw[hxe];refine C1 (bN _) ?_;rfl
  have k3:=h;clear hxe;refine S0 (fun hb h=>?_) fun hb h=>?_
  ·have hx:=mh k1 k2 k3 (by omega)
   have hh:jo x.aM x.bG x.fName x.fType=[bF pJ,bF x.fName]:=by rw[kT h];rfl
   rw[hh] at hx;refine C1 (bN _) ?_;refine C1 (bN _) ?_;have hE:=fun S=>q9 [bF pJ,bF x.fName] x.fArgs S hA (by omega) (by simp);simp only[List.map_cons,List.map_nil,fB] at hE;refine cK rfl (hE _) ?_;refine W1 ?_;rw[hx];rfl
  have k4:=h;refine S0 (fun hb h=>?_) fun hb h=>?_
  ·have hx:=mh k1 k2 k3 (by omega)
   have hh:jo x.aM x.bG x.fName x.fType=[bF jw,bF x.bG,bF x.fName]:=by rw[kT h];rfl
   rw[hh] at hx;refine C1 (bN _) ?_;refine C1 (bN _) ?_;refine C1 (bN _) ?_;have hE:=fun S=>q9 [bF jw,bF x.bG,bF x.fName] x.fArgs S hA (by omega) (by simp);simp only[List.map_cons,List.map_nil,fB] at hE;refine cK rfl (hE _) ?_;refine W1 ?_;rw[hx];rfl
  have k5:=h;refine S0 (fun hb h=>?_) fun hb h=>?_
  ·have hx:=mh k1 k2 k3 (by omega)
   have hh:jo x.aM x.bG x.fName x.fType=[bF sU,bF x.fName]:=by rw[kT h];rfl
   rw[hh] at hx;refine C1 (bN _) ?_;refine C1 (bN _) ?_;have hE:=fun S=>q9 [bF sU,bF x.fName] x.fArgs S hA (by omega) (by simp);simp only[List.map_cons,List.map_nil,fB] at hE;refine cK rfl (hE _) ?_;refine W1 ?_;rw[hx];rfl
  have k6:=h;refine S0 (fun hb h=>?_) fun hb h=>?_
  ·have hx:=mh k1 k2 k3 (by omega)
   have hh:jo x.aM x.bG x.fName x.fType=[bF sV,bF x.fName]:=by rw[kT h];rfl
   rw[hh] at hx;refine C1 (bN _) ?_;refine C1 (bN _) ?_;have hE:=fun S=>q9 [bF sV,bF x.fName] x.fArgs S hA (by omega) (by simp);simp only[List.map_cons,List.map_nil,fB] at hE;refine cK rfl (hE _) ?_;refine W1 ?_;rw[hx];rfl
  have k8:=h;refine S0 (fun hb h=>?_) fun hb h=>?_
  ·have hx:=mh k1 k2 k3 (by omega)
   have hh:jo x.aM x.bG x.fName x.fType=[bF xU]:=by rw[kT h];rfl
   rw[hh] at hx;refine C1 (bN _) ?_;have hE:=fun S=>q9 [bF xU] x.fArgs S hA (by omega) (by simp);simp only[List.map_cons,List.map_nil,fB] at hE;refine cK rfl (hE _) ?_;refine W1 ?_;rw[hx];rfl
  have k9:=h;refine S0 (fun hb h=>?_) fun hb h=>?_
  ·have hx:=mh k1 k2 k3 (by omega)
   have hh:jo x.aM x.bG x.fName x.fType=[bF x.fName]:=by rw[kT h];rfl
   rw[hh] at hx;refine C1 (bN _) ?_;have hE:=fun S=>q9 [bF x.fName] x.fArgs S hA (by omega) (by simp);simp only[List.map_cons,List.map_nil,fB] at hE;refine cK rfl (hE _) ?_;refine W1 ?_;rw[hx];rfl
  have k10:=h;refine S0 (fun hb h=>?_) fun hb h=>?_
  ·have hx:=mh k1 k2 k3 (by omega)
   have hh:jo x.aM x.bG x.fName x.fType=[bF pK,bF x.bG]:=by rw[kT h];rfl
   rw[hh] at hx;refine C1 (bN _) ?_;refine C1 (bN _) ?_;have hE:=fun S=>q9 [bF pK,bF x.bG] x.fArgs S hA (by omega) (by simp);simp only[List.map_cons,List.map_nil,fB] at hE;refine cK rfl (hE _) ?_;refine W1 ?_;rw[hx];rfl
  have k11:=h;refine S0 (fun hb h=>?_) fun hb h=>?_
  ·have hx:=mh k1 k2 k3 (by omega)
   have hh:jo x.aM x.bG x.fName x.fType=[bF ug,bZ x.fType]:=by rw[kT h];rfl
   rw[hh] at hx;refine C1 (bN _) ?_;refine C1 (mG x.fType (by omega)) ?_;have hE:=fun S=>q9 [bF ug,bZ x.fType] x.fArgs S hA (by omega) (by simp);simp only[List.map_cons,List.map_nil,fB,aj.aQ (bZ x.fType)] at hE;refine cK rfl (hE _) ?_;refine W1 ?_;rw[hx];show _=V.agg [.d (.s []),.d (.sl (List.map aj.enc (bF ug::bZ x.fType::x.fArgs.map fu)))];simp only[List.cons_append,List.nil_append,List.map_cons,fB,aj.aQ (bZ x.fType)];rfl
  have k12:=h
  have hk7:x.aM=7:=by have:=hfi.1;omega
  have hx:=KC x;rw[if_neg k1,if_neg k2,if_neg k3,if_neg (by omega)] at hx
  have hh:jo x.aM x.bG x.fName x.fType=[bF lI]:=by rw[kT hk7];rfl
  rw[hh] at hx;refine C1 (bN _) ?_;have hE:=fun bP Ω=>Xb [bF lI] x.fArgs bP Ω hA (by omega) (by simp);obtain⟨B,hB⟩:∃B:Nat->List (List D),B=fun i=>(([bF lI]++x.fArgs.map fu)++(x.aS.map Ag).take i).map aj.enc:=⟨_,rfl⟩
  have hB0:([bF lI]++x.fArgs.map fu).map aj.enc=B 0:=by rw[hB];simp only[List.take_zero,List.append_nil]
  have hBl:∀i,(B i).length<=i+x.fArgs.length+1:=fun i=>by
   rw[hB];simp only[List.length_append,List.length_map,List.length_cons,List.length_nil];have:=List.length_take_le i (x.aS.map Ag);omega
  have hBr:∀i,∀r∈B i,r.length=2:=fun i=>by rw[hB];exact gJ
  have hBs:∀i (hi:i<x.aS.length),B i++[[.s [],.sl (([bF x.aS[i].dO]++aP x.aS[i].aF++[fu x.aS[i].fBody]).map aj.enc)]]=B (i+1):=fun i hi=>by
   have:=ji (base:=[bF lI]++x.fArgs.map fu) (l:=x.aS.map Ag) (i:=i) (by rw[List.length_map];exact hi);rw[List.getElem_map,afz,dW,bY] at this;rw[hB];exact this
  have hBe:B x.aS.length=([bF lI]++x.fArgs.map fu++x.aS.map Ag).map aj.enc:=by rw[hB];simp only;rw[List.take_of_length_le (by simp)]
  clear hB;simp only[hB0] at hE;simp only[List.map_cons,List.map_nil,fB] at hE;refine cK rfl (hE _ _) ?_;refine W1 ?_
  refine aR (ι:=Nat) zmx rfl [1,2,3,4] (fun i=>[.c (.ptr (0,0) 0),.c (.ptr (0,1) 0),.c (.ptr (0,5) 0),.c (.d (.i .i64 i))])
   (fun i=>[.box [.d (.i .i64 x.aM),.d (.s x.bG),.d (.s x.fName),.d (.i .i64 x.fN),.d (.i .i64 x.fType.aM),.d (.s x.fType.fName),.d (.sl (x.fType.fArgs.map ak.enc)),.d (.sl (x.fArgs.map ay.enc)),.d (.sl (x.aS.map aZ.enc))],.box [.d (.s []),.bn []],.box [.d (.s []),.bB (0,4) (B 0)],.box [.d (.s []),.bB (0,4) (B 0)],.tok 2 (B i),.box [.d (.s []),.bB (0,4) (B i)]]::S)
   (fun i=>i<=x.aS.length) (fun i=>x.aS.length-i) 0 rfl rfl (Nat.zero_le _) ?_
  intro i hi;have hl:=hBl i;have hr:=hBr i;refine W1 ?_;refine S0 (fun hb h=>?_) fun hb h=>?_
  ·have hi':i<x.aS.length:=by omega
   have hm:=List.getElem_mem hi';have hez:=PK hm;have hea:=Ca x.aS[i];have hs:=hBs i hi';have hak:=Xa _ hm;rw[sS,Bool.and_eq_true,Bool.and_eq_true] at hak;have hls:=List.sizeOf_lt_of_mem hm;have hlb:=aZ.tV x.aS[i];refine W3 ?_;refine C1 (bN _) ?_;refine W3 ?_;refine aX (Kz x.aS[i].aF (by omega)) ?_;have hwr:=gJ (l:=aP x.aS[i].aF)
   have hwl:(aP x.aS[i].aF).length=x.aS[i].aF.length:=by rw[jA]
   refine W1 ?_;refine W3 ?_;refine C1 (ih x.aS[i].fBody (by omega) hak.2.2 (by omega)) ?_;refine W3 ?_;simp only[List.cons_append,List.nil_append,List.map_cons,List.map_nil,List.map_append,fB,aj.aQ (fu x.aS[i].fBody)] at hs;rw[hs];exact bL 6 (by decide) (i+1) (by omega) rfl rfl rfl rfl (by omega)
  ·have hi':i=x.aS.length:=by omega
   subst hi';rw[hx,hBe];rfl
theorem uy(x:ay)(hok:iV x=true)(hsz:x.sz<=4194304):aC prog 137 [x.v] (fu x).v:=PO _ x (Nat.lt_succ_self _) hok hsz
theorem Xc{x:ay}(h:sF x=true):iV x=true:=by rw[sF,Bool.and_eq_true] at h;exact h.2
noncomputable def CB(k:Int)(n:List UInt8)(bound out:List (List UInt8)):List (List UInt8):=if k=3/\n∉bound/\n∉out then out++[n] else out
mutual
noncomputable def lJ:ay->List (List UInt8)->List (List UInt8)->List (List UInt8)
 | .mk k _ n _ _ a b,bound,out=>xB b bound (tC a k n 0 bound (CB k n bound out))
noncomputable def tC:List ay->Int->List UInt8->Nat->List (List UInt8)->List (List UInt8)->List (List UInt8)
 |[],_,_,_,_,out=>out
 |x::xs,k,n,i,bound,out=>tC xs k n (i+1) bound (lJ x (if k=8/\i=1 then bound++[n] else bound) out)
noncomputable def xB:List aZ->List (List UInt8)->List (List UInt8)->List (List UInt8)
 |[],_,out=>out
 |x::xs,bound,out=>xB xs bound (IZ x bound out)
noncomputable def IZ:aZ->List (List UInt8)->List (List UInt8)->List (List UInt8)
 | .mk _ v b,bound,out=>lJ b (bound++v) out
end
theorem Xd(x:ay)(bound out:List (List UInt8)):lJ x bound out=xB x.aS bound (tC x.fArgs x.aM x.fName 0 bound (CB x.aM x.fName bound out)):=by cases x;rw[lJ];rfl
theorem Xe(x:aZ)(bound out:List (List UInt8)):IZ x bound out=lJ x.fBody (bound++x.aF) out:=by cases x;rw[IZ];rfl
theorem PS{xs:List ay}{k:Int}{n:List UInt8}{i:Nat}{bound out:List (List UInt8)}(hi:i<xs.length):tC (xs.drop i) k n i bound out=tC (xs.drop (i+1)) k n (i+1) bound (lJ xs[i] (if k=8/\i=1 then bound++[n] else bound) out):=by
 rw[List.drop_eq_getElem_cons hi,tC]
theorem PU{xs:List aZ}{i:Nat}{bound out:List (List UInt8)}(hi:i<xs.length):xB (xs.drop i) bound out=xB (xs.drop (i+1)) bound (IZ xs[i] bound out):=by
 rw[List.drop_eq_getElem_cons hi,xB]
theorem Ns(k:Int)(n:List UInt8)(bound out:List (List UInt8)):(CB k n bound out).length<=out.length+1:=by
 unfold CB;split<;>simp
mutual
theorem wS:∀(x:ay)(bound out:List (List UInt8)),(lJ x bound out).length<=out.length+x.cnt
 | .mk k t n m ty a b,bound,out=>by
   have h1:=Ns k n bound out;have h2:=Tc a k n 0 bound (CB k n bound out);have h3:=Td b bound (tC a k n 0 bound (CB k n bound out));rw[lJ,ay.cnt];omega
theorem Tc:∀(xs:List ay)(k:Int)(n:List UInt8)(i:Nat)(bound out:List (List UInt8)),(tC xs k n i bound out).length<=out.length+ay.eF xs
 |[],k,n,i,bound,out=>by rw[tC,ay.eF];omega
 |x::xs,k,n,i,bound,out=>by
  have h1:=wS x (if k=8/\i=1 then bound++[n] else bound) out;have h2:=Tc xs k n (i+1) bound (lJ x (if k=8/\i=1 then bound++[n] else bound) out);rw[tC,ay.eF];omega
theorem Td:∀(xs:List aZ)(bound out:List (List UInt8)),(xB xs bound out).length<=out.length+aZ.eF xs
 |[],bound,out=>by rw[xB,aZ.eF];omega
 |x::xs,bound,out=>by
  have h1:=afJ x bound out;have h2:=Td xs bound (IZ x bound out);rw[xB,aZ.eF];omega
theorem afJ:∀(x:aZ)(bound out:List (List UInt8)),(IZ x bound out).length<=out.length+x.cnt
 | .mk c v b,bound,out=>by
   have h1:=wS b (bound++v) out;rw[IZ,aZ.cnt];omega
end
theorem ay.wG{x:ay}{i:Nat}(hi:i<x.fArgs.length):x.fArgs[i].sz+x.fArgs.length<=x.sz:=by
 have hx:x.fArgs[i].sz<=bf (x.fArgs.map ay.enc):=cB (List.mem_map_of_mem (List.getElem_mem hi));have:=ay.Em x;omega
theorem ay.afK{x:ay}{i:Nat}(hi:i<x.aS.length):x.aS[i].sz+x.aS.length<=x.sz:=by
 have hx:x.aS[i].sz<=bf (x.aS.map aZ.enc):=cB (List.mem_map_of_mem (List.getElem_mem hi));have:=ay.Em x;omega
theorem aZ.aaj(x:aZ):x.aF.length+x.fBody.sz<=x.sz:=by
 simp only[aZ.sz,aZ.aQ,ay.sz,dz,bW,D.sz,List.length_map];omega
theorem LM(xs:List (List UInt8))(s:List UInt8):xs.map encS++[[D.s s]]=(xs++[s]).map encS:=by simp[encS]
theorem KG:∀N:Nat,∀x:ay,SizeOf.sizeOf x<N->x.sz<=4194304->∀(bound out:List (List UInt8))(l j:Nat)(S:Store),bA S (l,j)=some (.tok 1 (out.map encS))->out.length+x.cnt<=1073741824->bound.length+x.sz<=1073741824->
 dw prog 254 [.c (.bB (l,j) (out.map encS)),x.v,.c (.d (.sl (bound.map encS)))] S (fun r S'=>r=.c (.bB (l,j) ((lJ x bound out).map encS))/\S'=bJ S (l,j) (.tok 1 ((lJ x bound out).map encS)))
 |0=>fun x h=>by omega
 |N+1=>by
  have ih:=KG N;intro x hn hsz bound out l j S hk hc hbd;have hb0:=ay.Em x;have kG:=ay.jv x;have Di:=ay.vH x;have hcn:=ay.qG x;have OP:∀y:Ab.Obj,bA (bJ S (l,j) y) (l,j)=some y:=fun y=>eO _ _ _ _ hk;have hS0:bJ S (l,j) (.tok 1 (out.map encS))=S:=BL _ _ hk;have fin:=Xd x bound out;have hal:=Ns x.aM x.fName bound out;obtain⟨o1,ho1⟩:∃o1,CB x.aM x.fName bound out=o1:=⟨_,rfl⟩;rw[ho1] at fin hal;refine(show Hold ?T->_ from fun tail=> ?main) ?tp
  case' main=>
   refine zcx [.tmp 6] func254 ntmps254 ?_;simp -implicitDefEqProofs (disch:=omega) only[go_sem,hk]
   repeat' (first
    |(with_reducible refine dZ (fun hb=> ?_) (fun hb=> ?_)<;>have h:=hb<;>(try simp only[wf_preprocess] at h)<;>simp -implicitDefEqProofs (disch:=omega) only[go_sem,hb,hk]<;>refine W3 ?_)
    |(refine aX (rM bound x.fName (by omega)) ?_;simp -implicitDefEqProofs (disch:=omega) only[go_sem,hk];refine W3 ?_)
    |(refine aX (rM out x.fName (by omega)) ?_;simp -implicitDefEqProofs (disch:=omega) only[go_sem,hk];refine W3 ?_))
   all_goals first
    |(have ha:CB x.aM x.fName bound out=out++[x.fName]:=if_pos ⟨by assumption,by assumption,by assumption⟩)
    |(have ha:CB x.aM x.fName bound out=out:=if_neg (fun y=>by have:=y.1;have:=y.2.1;have:=y.2.2;contradiction))
   all_goals
    refine nP (st':=[.box (x.enc.map .d)]::bJ S (l,j) (.tok 1 (o1.map encS))) [0,2,4,34,35,36] [.c (.bB (1+l,j) (o1.map encS)),.c (.d (.sl (bound.map encS))),.c (.ptr (0,0) 0),.c (.d (.sl (x.fArgs.map ay.enc))),.c (.d (.i .i64 x.fArgs.length)),.c (.d (.i .i64 0))] ?_ ?_ ?_
    ·first|(rw[<-ho1,ha];rfl)|(rw[<-ho1,ha,<-LM];rfl)
    ·first|(rw[<-ho1,ha,hS0];exact Z1;done)|(rw[<-ho1,ha,<-LM];exact Z1;done)
    ·exact tail.out
  refine⟨?_⟩;clear ho1
  refine aR (ι:=Nat×List (List UInt8)) zmx rfl [0,2,4,34,35,36] (fun y=>[.c (.bB (1+l,j) (y.2.map encS)),.c (.d (.sl (bound.map encS))),.c (.ptr (0,0) 0),.c (.d (.sl (x.fArgs.map ay.enc))),.c (.d (.i .i64 x.fArgs.length)),.c (.d (.i .i64 y.1))]) (fun y=>[.box (x.enc.map .d)]::bJ S (l,j) (.tok 1 (y.2.map encS)))
   (fun y=>y.1<=x.fArgs.length/\y.2.length+ay.eF (x.fArgs.drop y.1)+aZ.eF x.aS<=1073741824/\tC (x.fArgs.drop y.1) x.aM x.fName y.1 bound y.2=tC x.fArgs x.aM x.fName 0 bound o1) (fun y=>x.fArgs.length-y.1) (0,o1) rfl rfl ⟨Nat.zero_le _,by simp only[List.drop_zero];omega,rfl⟩ ?_
  rintro⟨i,o⟩ ⟨p1,p2,p3⟩
  have refs:∀{a b},iR 1 (gV [0,2,4,34,35,36] [.c (.bB (1+l,j) a),.c (.d (.sl (bound.map encS))),.c (.ptr (0,0) 0),.c (.d (.sl (x.fArgs.map ay.enc))),.c (.d (.i .i64 x.fArgs.length)),.c (.d (.i .i64 b))])=true:=fun {a b}=>by simp[iR,gV,V.refs,C.refs,kr];omega
  simp only at p1 p2 p3;refine W1 ?_;refine S0 (fun hb h=>?_) fun hb h=>?_
  ·have hi:i<x.fArgs.length:=by omega
   have hs:=List.sizeOf_lt_of_mem (List.getElem_mem hi);have hz:=ay.wG hi;rw[PS hi] at p3;rw[ay.nu hi] at p2;have hlo:=wS x.fArgs[i] (if x.aM=8/\i=1 then bound++[x.fName] else bound) o;refine W3 ?_
   have two:x.fArgs[i].sz+(bound.length+1)<=1073741824:=by omega
   repeat' (first|refine S0 (fun hb h=>?_) fun hb h=>?_)
   ·
    have e1:x.aM=8/\i=1:=⟨by omega,by omega⟩;rw[if_pos e1] at p3 hlo;refine amP rfl DS.push (afE bound (by omega) _ _) ?_;refine W1 ?_;refine W3 ?_;rw[LM];refine mQ [true,true,false] rfl (ih x.fArgs[i] (by omega) (by omega) (bound++[x.fName]) o (1+l) j _ (by refine W1 ?_;exact OP _) (by omega) (by simp only[List.length_append,List.length_cons,List.length_nil];omega)) ?_;simp -implicitDefEqProofs (disch:=omega) only[go_sem,bQ];exact bL 1 (by decide) (i+1,lJ x.fArgs[i] (bound++[x.fName]) o) (by simp only;omega) rfl rfl refs rfl ⟨by simp only;omega,by simp only;omega,p3⟩
   all_goals
    have e1:¬(x.aM=8/\i=1):=fun h=>by omega
    rw[if_neg e1] at p3 hlo;refine cK rfl (ih x.fArgs[i] (by omega) (by omega) bound o (1+l) j _ (by refine W1 ?_;exact OP _) (by omega) (by omega)) ?_;simp -implicitDefEqProofs (disch:=omega) only[go_sem,bQ];exact bL 1 (by decide) (i+1,lJ x.fArgs[i] bound o) (by simp only;omega) rfl rfl refs rfl ⟨by simp only;omega,by simp only;omega,p3⟩
  have hi:i=x.fArgs.length:=by omega
  rw[hi,List.drop_length] at p2 p3;rw[ay.eF] at p2;rw[tC] at p3;rw[<-p3] at fin;clear p3 refs
  refine aR (ι:=Nat×List (List UInt8)) zmx rfl [0,2,63,64,65] (fun y=>[.c (.bB (1+l,j) (y.2.map encS)),.c (.d (.sl (bound.map encS))),.c (.d (.sl (x.aS.map aZ.enc))),.c (.d (.i .i64 x.aS.length)),.c (.d (.i .i64 y.1))]) (fun y=>[.box (x.enc.map .d)]::bJ S (l,j) (.tok 1 (y.2.map encS)))
   (fun y=>y.1<=x.aS.length/\y.2.length+aZ.eF (x.aS.drop y.1)<=1073741824/\xB (x.aS.drop y.1) bound y.2=lJ x bound out) (fun y=>x.aS.length-y.1) (0,o) rfl ?_ ⟨Nat.zero_le _,by simp only[List.drop_zero];omega,fin.symm⟩ ?_
  ·exact Z1
  clear p1 p2 fin hal;rintro⟨i,o⟩ ⟨p1,p2,p3⟩
  have refs:∀a b,iR 1 (gV [0,2,63,64,65] [.c (.bB (1+l,j) a),.c (.d (.sl (bound.map encS))),.c (.d (.sl (x.aS.map aZ.enc))),.c (.d (.i .i64 x.aS.length)),.c (.d (.i .i64 b))])=true:=fun a b=>by simp[iR,gV,V.refs,C.refs,kr];omega
  simp only at p1 p2 p3;refine W1 ?_;refine S0 (fun hb h=>?_) fun hb h=>?_
  ·have hi:i<x.aS.length:=by omega
   have hs:=List.sizeOf_lt_of_mem (List.getElem_mem hi);have hs':=aZ.tV x.aS[i];have hz:=ay.afK hi;have hz':=aZ.aaj x.aS[i];rw[PU hi,Xe] at p3;rw[aZ.nu hi] at p2;have hlo:=wS x.aS[i].fBody (bound++x.aS[i].aF) o;have hcc:=acW [bound,x.aS[i].aF] (by simp) (by simp only[List.flatten_cons,List.flatten_nil,List.append_nil,List.length_append];omega);simp only[List.map_cons,List.map_nil,List.flatten_cons,List.flatten_nil,List.append_nil] at hcc;refine W3 ?_;refine aX hcc ?_;refine W1 ?_;refine cK rfl (ih x.aS[i].fBody (by omega) (by omega) (bound++x.aS[i].aF) o (1+l) j _ (by refine W1 ?_;exact OP _) (by omega) (by simp only[List.length_append];omega)) ?_;simp -implicitDefEqProofs (disch:=omega) only[go_sem,bQ];exact bL 1 (by decide) (i+1,lJ x.aS[i].fBody (bound++x.aS[i].aF) o) (by simp only;omega) rfl rfl (refs _ _) rfl ⟨by simp only;omega,by simp only;omega,p3⟩
  ·have hi:i=x.aS.length:=by omega
   rw[hi,List.drop_length,xB] at p3;rw[<-p3];exact⟨rfl,rfl⟩
theorem PV(x:ay)(hsz:x.sz<=4194304):aC prog 224 [x.v] (.c (.d (.sl ((lJ x [] []).map encS)))):=fun S=>by
 have hc:=ay.mR x
 have h0:∀S,dw prog 254 [.c (.bn []),x.v,.c (.d (.sl []))] S (fun r S'=>r=.c (.d (.sl ((lJ x [] []).map encS)))/\S'=S):=fun S=>by
  refine dw.ah2 0 (es:=[]) (aW:=1) rfl (by simp) (KG _ x (Nat.lt_succ_self _) hsz [] [] 0 0 ([.tok 1 []]::S) rfl (by simp;omega) (by simp;omega)) ?_;rintro r fr S' ⟨rfl,h2⟩;injection h2 with h2 h3;exact⟨_,rfl,rfl,h3⟩
 refine zcx [.tmp 2] func224 ntmps224 ?_;refine W1 ?_;refine W3 ?_;refine mQ [true,true,false] rfl (h0 _) ?_;exact Z1
theorem KH:∀N:Nat,∀x:ay,SizeOf.sizeOf x<N->x.sz<=4194304->∀(bound out:List (List UInt8))(l j:Nat)(S:Store),bA S (l,j)=some (.tok 1 (out.map encS))->out.length+x.cnt<=1073741824->bound.length+x.sz<=1073741824->
 dw prog 262 [x.v,.c (.d (.sl (bound.map encS))),.c (.bB (l,j) (out.map encS))] S (fun r S'=>r=.c (.bB (l,j) ((lJ x bound out).map encS))/\S'=bJ S (l,j) (.tok 1 ((lJ x bound out).map encS)))
 |0=>fun x h=>by omega
 |N+1=>by
  have ih:=KH N;intro x hn hsz bound out l j S hk hc hbd;have hb0:=ay.Em x;have kG:=ay.jv x;have Di:=ay.vH x;have hcn:=ay.qG x;have OP:∀y:Ab.Obj,bA (bJ S (l,j) y) (l,j)=some y:=fun y=>eO _ _ _ _ hk;have hS0:bJ S (l,j) (.tok 1 (out.map encS))=S:=BL _ _ hk;have fin:=Xd x bound out;have hal:=Ns x.aM x.fName bound out;obtain⟨o1,ho1⟩:∃o1,CB x.aM x.fName bound out=o1:=⟨_,rfl⟩;rw[ho1] at fin hal;refine(show Hold ?T->_ from fun tail=> ?main) ?tp
  case' main=>
   refine zcx [.tmp 6] func262 ntmps262 ?_;simp -implicitDefEqProofs (disch:=omega) only[go_sem,hk]
   repeat' (first
    |(with_reducible refine dZ (fun hb=> ?_) (fun hb=> ?_)<;>have h:=hb<;>(try simp only[wf_preprocess] at h)<;>simp -implicitDefEqProofs (disch:=omega) only[go_sem,hb,hk]<;>refine W3 ?_)
    |(refine aX (rJ bound x.fName (by omega)) ?_;simp -implicitDefEqProofs (disch:=omega) only[go_sem,hk];refine W3 ?_)
    |(refine aX (rJ out x.fName (by omega)) ?_;simp -implicitDefEqProofs (disch:=omega) only[go_sem,hk];refine W3 ?_))
   all_goals first
    |(have ha:CB x.aM x.fName bound out=out++[x.fName]:=if_pos ⟨by assumption,by assumption,by assumption⟩)
    |(have ha:CB x.aM x.fName bound out=out:=if_neg (fun y=>by have:=y.1;have:=y.2.1;have:=y.2.2;contradiction))
   all_goals
    refine nP (st':=[.box (x.enc.map .d)]::bJ S (l,j) (.tok 1 (o1.map encS))) [1,2,3,7] [.c (.d (.sl (bound.map encS))),.c (.bB (1+l,j) (o1.map encS)),.c (.ptr (0,0) 0),.c (.d (.i .i64 0))] ?_ ?_ ?_
    ·first|(rw[<-ho1,ha];rfl)|(rw[<-ho1,ha,<-LM];rfl)
    ·first|(rw[<-ho1,ha,hS0];exact Z1;done)|(rw[<-ho1,ha,<-LM];exact Z1;done)
    ·exact tail.out
  refine⟨?_⟩;clear ho1
  refine aR (ι:=Nat×List (List UInt8)) zmx rfl [1,2,3,7] (fun y=>[.c (.d (.sl (bound.map encS))),.c (.bB (1+l,j) (y.2.map encS)),.c (.ptr (0,0) 0),.c (.d (.i .i64 y.1))]) (fun y=>[.box (x.enc.map .d)]::bJ S (l,j) (.tok 1 (y.2.map encS)))
   (fun y=>y.1<=x.fArgs.length/\y.2.length+ay.eF (x.fArgs.drop y.1)+aZ.eF x.aS<=1073741824/\tC (x.fArgs.drop y.1) x.aM x.fName y.1 bound y.2=tC x.fArgs x.aM x.fName 0 bound o1) (fun y=>x.fArgs.length-y.1) (0,o1) rfl rfl ⟨Nat.zero_le _,by simp only[List.drop_zero];omega,rfl⟩ ?_
  rintro⟨i,o⟩ ⟨p1,p2,p3⟩
  have refs:∀{a b},iR 1 (gV [1,2,3,7] [.c (.d (.sl (bound.map encS))),.c (.bB (1+l,j) a),.c (.ptr (0,0) 0),.c (.d (.i .i64 b))])=true:=fun {a b}=>by simp[iR,gV,V.refs,C.refs,kr];omega
  simp only at p1 p2 p3;refine W1 ?_;refine S0 (fun hb h=>?_) fun hb h=>?_
  ·have hi:i<x.fArgs.length:=by omega
   have hs:=List.sizeOf_lt_of_mem (List.getElem_mem hi);have hz:=ay.wG hi;rw[PS hi] at p3;rw[ay.nu hi] at p2;have hlo:=wS x.fArgs[i] (if x.aM=8/\i=1 then bound++[x.fName] else bound) o
   have two:x.fArgs[i].sz+(bound.length+1)<=1073741824:=by omega
   repeat' (first|refine S0 (fun hb h=>?_) fun hb h=>?_)
   ·have e1:x.aM=8/\i=1:=⟨by omega,by omega⟩;rw[if_pos e1] at p3 hlo;refine⟨EC,⟨_,rfl,rfl⟩,fun y hy=>(by cases hy),by omega,?_⟩;refine W3 ?_;rw[LM];refine mQ [true,false,true] rfl (ih x.fArgs[i] (by omega) (by omega) (bound++[x.fName]) o (1+l) j _ (by refine W1 ?_;exact OP _) (by omega) (by simp only[List.length_append,List.length_cons,List.length_nil];omega)) ?_;simp -implicitDefEqProofs (disch:=omega) only[go_sem,bQ];exact bL 1 (by decide) (i+1,lJ x.fArgs[i] (bound++[x.fName]) o) (by simp only;omega) rfl rfl refs rfl ⟨by simp only;omega,by simp only;omega,p3⟩
   all_goals
    have e1:¬(x.aM=8/\i=1):=fun h=>by omega
    rw[if_neg e1] at p3 hlo;refine W3 ?_;refine cK rfl (ih x.fArgs[i] (by omega) (by omega) bound o (1+l) j _ (by refine W1 ?_;exact OP _) (by omega) (by omega)) ?_;simp -implicitDefEqProofs (disch:=omega) only[go_sem,bQ];exact bL 1 (by decide) (i+1,lJ x.fArgs[i] bound o) (by simp only;omega) rfl rfl refs rfl ⟨by simp only;omega,by simp only;omega,p3⟩
  have hi:i=x.fArgs.length:=by omega
  rw[hi,List.drop_length] at p2 p3;rw[ay.eF] at p2;rw[tC] at p3;rw[<-p3] at fin;clear p3 refs
  refine aR (ι:=Nat×List (List UInt8)) zmx rfl [1,2,3,9] (fun y=>[.c (.d (.sl (bound.map encS))),.c (.bB (1+l,j) (y.2.map encS)),.c (.ptr (0,0) 0),.c (.d (.i .i64 y.1))]) (fun y=>[.box (x.enc.map .d)]::bJ S (l,j) (.tok 1 (y.2.map encS)))
   (fun y=>y.1<=x.aS.length/\y.2.length+aZ.eF (x.aS.drop y.1)<=1073741824/\xB (x.aS.drop y.1) bound y.2=lJ x bound out) (fun y=>x.aS.length-y.1) (0,o) rfl ?_ ⟨Nat.zero_le _,by simp only[List.drop_zero];omega,fin.symm⟩ ?_
  ·exact Z1
  clear p1 p2 fin hal;rintro⟨i,o⟩ ⟨p1,p2,p3⟩
  have refs:∀a b,iR 1 (gV [1,2,3,9] [.c (.d (.sl (bound.map encS))),.c (.bB (1+l,j) a),.c (.ptr (0,0) 0),.c (.d (.i .i64 b))])=true:=fun a b=>by simp[iR,gV,V.refs,C.refs,kr];omega
  simp only at p1 p2 p3;refine W1 ?_;refine S0 (fun hb h=>?_) fun hb h=>?_
  ·have hi:i<x.aS.length:=by omega
   have hs:=List.sizeOf_lt_of_mem (List.getElem_mem hi);have hs':=aZ.tV x.aS[i];have hz:=ay.afK hi;have hz':=aZ.aaj x.aS[i];rw[PU hi,Xe] at p3;rw[aZ.nu hi] at p2;have hlo:=wS x.aS[i].fBody (bound++x.aS[i].aF) o;refine⟨EC,⟨_,rfl,rfl⟩,fun y hy=>(by cases hy),by omega,⟨by omega,hi⟩,EC,⟨_,rfl,rfl⟩,by omega,?_⟩;rw[<-List.map_append];refine mQ [true,false,true] rfl (ih x.aS[i].fBody (by omega) (by omega) (bound++x.aS[i].aF) o (1+l) j _ (by refine W1 ?_;exact OP _) (by omega) (by simp only[List.length_append];omega)) ?_;simp -implicitDefEqProofs (disch:=omega) only[go_sem,bQ];exact bL 1 (by decide) (i+1,lJ x.aS[i].fBody (bound++x.aS[i].aF) o) (by simp only;omega) rfl rfl (refs _ _) rfl ⟨by simp only;omega,by simp only;omega,p3⟩
  ·have hi:i=x.aS.length:=by omega
   rw[hi,List.drop_length,xB] at p3;rw[<-p3];exact⟨rfl,rfl⟩
theorem PW(x:ay)(hsz:x.sz<=4194304):aC prog 240 [x.v] (.c (.d (.sl ((lJ x [] []).map encS)))):=fun S=>by
 have hc:=ay.mR x
 have h0:∀S,dw prog 262 [x.v,.c (.d (.sl [])),.c (.bn [])] S (fun r S'=>r=.c (.d (.sl ((lJ x [] []).map encS)))/\S'=S):=fun S=>by
  refine dw.ah2 2 (es:=[]) (aW:=1) rfl (by simp) (KH _ x (Nat.lt_succ_self _) hsz [] [] 0 0 ([.tok 1 []]::S) rfl (by simp;omega) (by simp;omega)) ?_;rintro r fr S' ⟨rfl,h2⟩;injection h2 with h2 h3;exact⟨_,rfl,rfl,h3⟩
 refine zcx [.tmp 2] func240 ntmps240 ?_;refine W1 ?_;refine W3 ?_;refine mQ [true,false,true] rfl (h0 _) ?_;exact Z1
theorem CV:∀n:Nat,(∀x:ak,SizeOf.sizeOf x<n->∀y:ak,x.sz<=4194304->aC prog 282 [x.v,y.v] (.c (.d (.b (dec (x=y))))))/\
 (∀xs:List ak,SizeOf.sizeOf xs<n->∀ys:List ak,xs.length+bf (xs.map ak.enc)<=4194304->aC prog 299 [.c (.d (.sl (xs.map ak.enc))),.c (.d (.sl (ys.map ak.enc)))] (.c (.d (.b (dec (xs=ys))))))
 |0=>⟨fun x h=>by omega,fun x h=>by omega⟩
 |n+1=>by
  obtain⟨ih,qj⟩:=CV n;refine⟨fun x hn y hsz S=> ?_,fun xs hn ys hsz S=> ?_⟩
  ·have kG:=ak.jv x;simp only[ak.sz,ak.aQ,dz,bW,D.sz,List.length_map] at hsz;refine zcx [.tmp 4] func282 ntmps282 ?_;refine W1 ?_;refine S0 (fun hb h=>?_) fun hb h=>?_
   ·refine S0 (fun hb h=>?_) fun hb h=>?_
    ·refine W3 ?_;refine C1 (qj x.fArgs (by omega) y.fArgs (by omega)) ?_;refine aH (iC ⟨fun e=> ?_,fun e=>by rw[e]⟩);exact ak.ext ‹x.aM=y.aM› h e
    ·exact aH (aK (fun e=>h (by rw[e]))).symm
   ·exact aH (aK (fun e=>h (by rw[e]))).symm
  ·refine zcx [.tmp 4] func299 ntmps299 ?_;refine W1 ?_;refine S0 (fun hb h=>?_) fun hb h=>?_
   ·exact aH (aK (fun e=>h (by rw[e]))).symm
   have hl:xs.length=ys.length:=by omega
   refine aR (ι:=Nat) zmx rfl [0,1,5] (fun y=>[.c (.d (.sl (xs.map ak.enc))),.c (.d (.sl (ys.map ak.enc))),.c (.d (.i .i64 y))]) (fun y=>[]::S)
    (fun i=>i<=xs.length/\∀j,j<i->xs[j]? =ys[j]?) (fun y=>xs.length-y) 0 rfl rfl ⟨Nat.zero_le _,fun j h=>by omega⟩ ?_
   rintro i ⟨p1,p2⟩;refine W1 ?_;refine S0 (fun hb h=>?_) fun hb h=>?_
   ·have hi:i<xs.length:=by omega
    have hi':i<ys.length:=by omega
    have hx:xs[i].sz<=bf (xs.map ak.enc):=cB (List.mem_map_of_mem (List.getElem_mem hi));refine W3 ?_;refine C1 (ih xs[i] (by have:=List.sizeOf_lt_of_mem (List.getElem_mem hi);omega) ys[i] (by omega)) ?_;refine S0 (fun hb h=>?_) fun hb h=>?_
    ·exact aH (aK (fun e=>h (by simp only[e]))).symm
    refine bV (i+1) (by omega) rfl rfl ⟨by omega,fun j hj=> ?_⟩;by_cases e:j=i
    ·subst e;rw[List.getElem?_eq_getElem hi,List.getElem?_eq_getElem hi',h]
    ·exact p2 j (by omega)
   ·have hi:i=xs.length:=by omega
    refine aH (bD (List.ext_getElem? fun j=> ?_)).symm;by_cases hj:j<i
    ·exact p2 j hj
    ·rw[List.getElem?_eq_none (by omega),List.getElem?_eq_none (by omega)]
theorem Nt(x y:ak)(h:x.sz<=4194304):aC prog 282 [x.v,y.v] (.c (.d (.b (dec (x=y))))):=(CV _).1 x (Nat.lt_succ_self _) y h
theorem CX:∀n:Nat,(∀x:ak,SizeOf.sizeOf x<n->∀y:ak,x.sz<=4194304->aC prog 267 [x.v,y.v] (.c (.d (.b (dec (x=y))))))/\
 (∀xs:List ak,SizeOf.sizeOf xs<n->∀ys:List ak,xs.length+bf (xs.map ak.enc)<=4194304->aC prog 289 [.c (.d (.sl (xs.map ak.enc))),.c (.d (.sl (ys.map ak.enc))),.c (.fn 267 [])] (.c (.d (.b (dec (xs=ys))))))
 |0=>⟨fun x h=>by omega,fun x h=>by omega⟩
 |n+1=>by
  obtain⟨ih,qj⟩:=CX n;refine⟨fun x hn y hsz S=> ?_,fun xs hn ys hsz S=> ?_⟩
  ·have kG:=ak.jv x;simp only[ak.sz,ak.aQ,dz,bW,D.sz,List.length_map] at hsz;refine zcx [.tmp 4] func267 ntmps267 ?_;refine W1 ?_;refine S0 (fun hb h=>?_) fun hb h=>?_
   ·refine S0 (fun hb h=>?_) fun hb h=>?_
    ·refine W3 ?_;refine C1 (qj x.fArgs (by omega) y.fArgs (by omega)) ?_;refine aH (iC ⟨fun e=> ?_,fun e=>by rw[e]⟩);exact ak.ext ‹x.aM=y.aM› h e
    ·exact aH (aK (fun e=>h (by rw[e]))).symm
   ·exact aH (aK (fun e=>h (by rw[e]))).symm
  ·refine zcx [.tmp 6] func289 ntmps289 ?_;refine W1 ?_;refine S0 (fun hb h=>?_) fun hb h=>?_
   ·exact aH (aK (fun e=>h (by rw[e]))).symm
   have hl:xs.length=ys.length:=by omega
   refine aR (ι:=Nat) zmx rfl [1,2,15,16,17] (fun y=>[.c (.d (.sl (ys.map ak.enc))),.c (.fn 267 []),.c (.d (.sl (xs.map ak.enc))),.c (.d (.i .i64 xs.length)),.c (.d (.i .i64 y))]) (fun y=>[]::S)
    (fun i=>i<=xs.length/\∀j,j<i->xs[j]? =ys[j]?) (fun y=>xs.length-y) 0 rfl rfl ⟨Nat.zero_le _,fun j h=>by omega⟩ ?_
   rintro i ⟨p1,p2⟩;refine W1 ?_;refine S0 (fun hb h=>?_) fun hb h=>?_
   ·have hi:i<xs.length:=by omega
    have hi':i<ys.length:=by omega
    have hx:xs[i].sz<=bf (xs.map ak.enc):=cB (List.mem_map_of_mem (List.getElem_mem hi));refine W3 ?_;refine C1 (ih xs[i] (by have:=List.sizeOf_lt_of_mem (List.getElem_mem hi);omega) ys[i] (by omega)) ?_;refine S0 (fun hb h=>?_) fun hb h=>?_
    ·exact aH (aK (fun e=>h (by simp only[e]))).symm
    refine bL 0 (by decide) (i+1) (by omega) rfl rfl rfl rfl ⟨by omega,fun j hj=> ?_⟩;by_cases e:j=i
    ·subst e;rw[List.getElem?_eq_getElem hi,List.getElem?_eq_getElem hi',h]
    ·exact p2 j (by omega)
   ·have hi:i=xs.length:=by omega
    refine aH (bD (List.ext_getElem? fun j=> ?_)).symm;by_cases hj:j<i
    ·exact p2 j hj
    ·rw[List.getElem?_eq_none (by omega),List.getElem?_eq_none (by omega)]
theorem Nu(x y:ak)(h:x.sz<=4194304):aC prog 267 [x.v,y.v] (.c (.d (.b (dec (x=y))))):=(CX _).1 x (Nat.lt_succ_self _) y h
theorem ay.ED{x:ay}(h:x.sz<=4194304):x.bG.length<=4194304/\x.fName.length<=4194304/\x.fType.sz<=4194304/\x.fArgs.length<=4194304/\x.aS.length<=4194304:=by
 simp only[ay.sz,ay.aQ,dz,bW,D.sz,List.length_map,ak.iD] at h;omega
theorem ay.akc{x:ay}{i:Nat}(hi:i<x.fArgs.length)(h:x.sz<=4194304):x.fArgs[i].sz<=4194304:=by
 have hx:x.fArgs[i].sz<=bf (x.fArgs.map ay.enc):=cB (List.mem_map_of_mem (List.getElem_mem hi));simp only[ay.sz,ay.aQ,dz,bW,D.sz,List.length_map,ak.iD] at h;omega
theorem ay.akd{x:ay}{i:Nat}(hi:i<x.aS.length)(h:x.sz<=4194304):x.aS[i].sz<=4194304:=by
 have hx:x.aS[i].sz<=bf (x.aS.map aZ.enc):=cB (List.mem_map_of_mem (List.getElem_mem hi));simp only[ay.sz,ay.aQ,dz,bW,D.sz,List.length_map,ak.iD] at h;omega
theorem aZ.ED{x:aZ}(h:x.sz<=4194304):x.dO.length<=4194304/\x.aF.length<=4194304/\x.fBody.sz<=4194304:=by
 simp only[aZ.sz,aZ.aQ,dz,bW,D.sz,List.length_map,ay.iD] at h;omega
theorem CY:∀n:Nat,∀x:ay,SizeOf.sizeOf x<n->∀y:ay,x.sz<=4194304->aC prog 245 [x.v,y.v] (.c (.d (.b (dec (x=y)))))
 |0=>fun x h=>by omega
 |n+1=>by
  have ih:=CY n;intro x hn y hsz S;have kG:=ay.jv x;have Di:=ay.vH x;have hb0:=ay.ED hsz
  have hargs:=M8 245 x.fArgs y.fArgs (by omega) (fun u hu v=>by
   obtain⟨i,hi,e⟩:=List.getElem_of_mem hu;have:=List.sizeOf_lt_of_mem hu
   exact ih u (by omega) v (by rw[<-e];exact ay.akc hi hsz))
  have apE:=OV 270 x.aS y.aS (by omega) (fun u hu v=>by
   obtain⟨i,hi,e⟩:=List.getElem_of_mem hu;have hs:=List.sizeOf_lt_of_mem hu
   have hz:u.sz<=4194304:=by rw[<-e];exact ay.akd hi hsz
   have hz':=aZ.ED hz;have apF:=aZ.tV u;intro S;refine zcx [.tmp 4] func270 ntmps270 ?_;refine W1 ?_;refine S0 (fun hb h=>?_) fun hb h=>?_
   ·have h1:=h;refine C2 (ae2 u.aF v.aF (by omega)) ?_;refine S0 (fun hb h=>?_) fun hb h=>?_
    ·have h2:=h;refine C2 (ih u.fBody (by omega) v.fBody (by omega)) ?_;exact aH (iC ⟨fun e=>aZ.ext h1 h2 e,fun e=>by rw[e]⟩)
    ·exact aH (aK (fun e=>h (by rw[e]))).symm
   ·exact aH (aK (fun e=>h (by rw[e]))).symm)
  refine zcx [.tmp 4] func245 ntmps245 ?_;refine W1 ?_;refine S0 (fun hb h=>?_) fun hb h=>?_
  ·have h1:=h;refine S0 (fun hb h=>?_) fun hb h=>?_
   ·have h2:=h;refine S0 (fun hb h=>?_) fun hb h=>?_
    ·have h3:=h;refine S0 (fun hb h=>?_) fun hb h=>?_
     ·have h4:=h;refine C2 (Nu x.fType y.fType (by omega)) ?_;refine S0 (fun hb h=>?_) fun hb h=>?_
      ·have h5:=h;refine C2 (hargs) ?_;refine S0 (fun hb h=>?_) fun hb h=>?_
       ·have h6:=h;refine C2 (apE) ?_;exact aH (iC ⟨fun e=>ay.ext h1 h2 h3 h4 h5 h6 e,fun e=>by rw[e]⟩)
       ·exact aH (aK (fun e=>h (by rw[e]))).symm
      ·exact aH (aK (fun e=>h (by rw[e]))).symm
     ·exact aH (aK (fun e=>h (by rw[e]))).symm
    ·exact aH (aK (fun e=>h (by rw[e]))).symm
   ·exact aH (aK (fun e=>h (by rw[e]))).symm
  ·exact aH (aK (fun e=>h (by rw[e]))).symm
theorem Nv(x y:ay)(h:x.sz<=4194304):aC prog 245 [x.v,y.v] (.c (.d (.b (dec (x=y))))):=CY _ x (Nat.lt_succ_self _) y h
theorem CZ:∀n:Nat,∀x:ay,SizeOf.sizeOf x<n->∀y:ay,x.sz<=4194304->aC prog 257 [x.v,y.v] (.c (.d (.b (dec (x=y)))))
 |0=>fun x h=>by omega
 |n+1=>by
  have ih:=CZ n;intro x hn y hsz S;have kG:=ay.jv x;have Di:=ay.vH x;have hb0:=ay.ED hsz;refine zcx [.tmp 4] func257 ntmps257 ?_;refine W1 ?_;refine S0 (fun hb h=>?_) fun hb h=>?_
  ·exact aH (aK (fun e=>h (by rw[e]))).symm
  have h1:=h;refine S0 (fun hb h=>?_) fun hb h=>?_
  ·exact aH (aK (fun e=>h (by rw[e]))).symm
  have h2:=h;refine S0 (fun hb h=>?_) fun hb h=>?_
  ·exact aH (aK (fun e=>h (by rw[e]))).symm
  have h3:=h;refine S0 (fun hb h=>?_) fun hb h=>?_
  ·exact aH (aK (fun e=>h (by rw[e]))).symm
  have h4:=h;refine C2 (Nt x.fType y.fType (by omega)) ?_;refine S0 (fun hb h=>?_) fun hb h=>?_
  ·exact aH (aK (fun e=>h (by rw[e]))).symm
  have h5:=h;refine S0 (fun hb h=>?_) fun hb h=>?_
  ·exact aH (aK (fun e=>h (by rw[e]))).symm
  have h6:x.fArgs.length=y.fArgs.length:=by omega
  refine S0 (fun hb h=>?_) fun hb h=>?_
  ·exact aH (aK (fun e=>h (by rw[e]))).symm
  have h7:x.aS.length=y.aS.length:=by omega
  refine aR (ι:=Nat) zmx rfl [2,3,5] (fun i=>[.c (.ptr (0,0) 0),.c (.ptr (0,1) 0),.c (.d (.i .i64 i))]) (fun _=>[.box (x.enc.map .d),.box (y.enc.map .d)]::S)
   (fun i=>i<=x.fArgs.length/\∀j,j<i->x.fArgs[j]? =y.fArgs[j]?) (fun i=>x.fArgs.length-i) 0 rfl ?_ ⟨Nat.zero_le _,fun j h=>by omega⟩ ?_
  ·exact Z1
  rintro i ⟨p1,p2⟩;refine W1 ?_;refine S0 (fun hb h=>?_) fun hb h=>?_
  ·have hi:i<x.fArgs.length:=by omega
   have hi':i<y.fArgs.length:=by omega
   refine W3 ?_;refine C2 (ih x.fArgs[i] (by have:=List.sizeOf_lt_of_mem (List.getElem_mem hi);omega) y.fArgs[i] (ay.akc hi hsz)) ?_;refine S0 (fun hb h=>?_) fun hb h=>?_
   ·exact aH (aK (fun e=>h (by simp only[e]))).symm
   refine bV (i+1) (by omega) rfl rfl ⟨by omega,fun j hj=> ?_⟩;by_cases e:j=i
   ·subst e;rw[List.getElem?_eq_getElem hi,List.getElem?_eq_getElem hi',h]
   ·exact p2 j (by omega)
  have hi:i=x.fArgs.length:=by omega
  have h8:x.fArgs=y.fArgs:=List.ext_getElem? fun j=>by
   by_cases hj:j<i
   ·exact p2 j hj
   ·rw[List.getElem?_eq_none (by omega),List.getElem?_eq_none (by omega)]
  refine aR (ι:=Nat) zmx rfl [2,3,6] (fun i=>[.c (.ptr (0,0) 0),.c (.ptr (0,1) 0),.c (.d (.i .i64 i))]) (fun _=>[.box (x.enc.map .d),.box (y.enc.map .d)]::S)
   (fun i=>i<=x.aS.length/\∀j,j<i->x.aS[j]? =y.aS[j]?) (fun i=>x.aS.length-i) 0 rfl ?_ ⟨Nat.zero_le _,fun j h=>by omega⟩ ?_
  ·exact Z1
  clear p1 p2 hi hb h;clear i;rintro i ⟨p1,p2⟩;refine W1 ?_;refine S0 (fun hb h=>?_) fun hb h=>?_
  ·have hi:i<x.aS.length:=by omega
   have hi':i<y.aS.length:=by omega
   have hs:=List.sizeOf_lt_of_mem (List.getElem_mem hi);have hz:=aZ.ED (ay.akd hi hsz);have apF:=aZ.tV x.aS[i];refine W3 ?_;refine S0 (fun hb h=>?_) fun hb h=>?_
   ·exact aH (aK (fun e=>h (by simp only[e]))).symm
   have k1:=h;refine W3 ?_;refine C2 (Y0 x.aS[i].aF y.aS[i].aF (by omega)) ?_;refine S0 (fun hb h=>?_) fun hb h=>?_
   ·exact aH (aK (fun e=>h (by simp only[e]))).symm
   have k2:=h;refine W3 ?_;refine C2 (ih x.aS[i].fBody (by omega) y.aS[i].fBody (by omega)) ?_;refine S0 (fun hb h=>?_) fun hb h=>?_
   ·exact aH (aK (fun e=>h (by simp only[e]))).symm
   have k3:=h;refine bV (i+1) (by omega) rfl rfl ⟨by omega,fun j hj=> ?_⟩;by_cases e:j=i
   ·subst e;rw[List.getElem?_eq_getElem hi,List.getElem?_eq_getElem hi',aZ.ext k1 k2 k3]
   ·exact p2 j (by omega)
  ·have hi:i=x.aS.length:=by omega
   have h9:x.aS=y.aS:=List.ext_getElem? fun j=>by
    by_cases hj:j<i
    ·exact p2 j hj
    ·rw[List.getElem?_eq_none (by omega),List.getElem?_eq_none (by omega)]
   exact aH (bD (ay.ext h1 h2 h3 h4 h5 h8 h9)).symm
theorem Nw(x y:ay)(h:x.sz<=4194304):aC prog 257 [x.v,y.v] (.c (.d (.b (dec (x=y))))):=CZ _ x (Nat.lt_succ_self _) y h
theorem GU:∀n:Nat,∀t:ak,SizeOf.sizeOf t<n->t.sz<=4194304->∀v:List UInt8,aC prog 239 [t.v,.c (.d (.s v))] (.c (.d (.i .i64 (rH v t))))
 |0=>fun t h=>by omega
 |n+1=>by
  have ih:=GU n;intro t hn hsz v S;have kG:=ak.jv t;have hts:=J2 hsz;have hcl:=aeY v t;have hcn:=mR t;have he:=aeX v t;refine zcx [.tmp 4] func239 ntmps239 ?_;refine W1 ?_
  repeat' (first|(refine S0 (fun hb h=>?_) fun hb h=>?_))
  all_goals first
   |(have hc:rH v t=1+xk v t.fArgs:=by rw[he,if_pos (by simp only[OH,decide_eq_true_eq];exact⟨by assumption,by assumption⟩)])
   |(have hc:rH v t=0+xk v t.fArgs:=by rw[he,if_neg (by simp only[OH,decide_eq_true_eq];exact fun x=>by have:=x.1;have:=x.2;contradiction)])
  all_goals
   refine aR (ι:=Nat×Nat) zmx rfl [1,2,5,6] (fun y=>[.c (.d (.s v)),.c (.ptr (0,0) 0),.c (.d (.i .i64 y.2)),.c (.d (.i .i64 y.1))]) (fun _=>[.box [.d (.i .i64 t.aM),.d (.s t.fName),.d (.sl (t.fArgs.map ak.enc))]]::S)
    (fun y=>y.1<=t.fArgs.length/\rH v t=y.2+xk v (t.fArgs.drop y.1)) (fun y=>t.fArgs.length-y.1) (0,_) rfl rfl ⟨Nat.zero_le _,hc⟩ ?_
   rintro⟨i,c⟩ ⟨p1,p2⟩;simp only at p1 p2;refine W1 ?_;refine S0 (fun hb h=>?_) fun hb h=>?_
   ·have hi:i<t.fArgs.length:=by omega
    rw[V9 hi] at p2;refine W3 ?_;refine C2 (ih t.fArgs[i] (by have:=List.sizeOf_lt_of_mem (List.getElem_mem hi);omega) (DF hi hsz).1 v) ?_;rw[show(c:Int)+(rH v t.fArgs[i]:Int)=((c+rH v t.fArgs[i]:Nat):Int) by omega];exact bV (i+1,c+rH v t.fArgs[i]) (by simp only;omega) rfl rfl ⟨by simp only;omega,by simp only;omega⟩
   ·have hi:i=t.fArgs.length:=by omega
    rw[hi,List.drop_length] at p2;have h0:xk v []=0:=rfl;exact int_eq (by omega)
theorem Un(v:List UInt8)(t:ak)(hsz:t.sz<=4194304):aC prog 198 [.c (.d (.s v)),t.v] (.c (.d (.b (occurs v t)))):=fun S=>by
 refine zcx [.tmp 4] func198 ntmps198 ?_;refine W1 ?_;refine C2 (GU _ t (Nat.lt_succ_self _) hsz v) ?_;exact aH (by unfold occurs;rw[Bool.eq_iff_iff];simp only[decide_eq_true_eq];omega)
def zeroE:ay:=.mk 0 [] [] 0 (.mk 0 [] []) [] []
def LP:List (List UInt8):=[[115,101,108,102]]
noncomputable def GV(vars:List (List UInt8))(e:ay):Bool:=sF e&&among (lJ e [] []) vars
noncomputable def nA(vars:List (List UInt8))(e:ay):Bool:=iN vars&&GV vars e
noncomputable def og(vars:List (List UInt8))(b:bS):Bool:=(validName b.bG&&oo b.fType)&&(!rW b.fType&&among (jG [] b.fType) vars)
noncomputable def qC(vars:List (List UInt8))(bs:List bS):Bool:=dec (bs.length<=4)&&bs.all (og vars)
noncomputable def iK(g:bg):Bool:=
 validName g.fName&&(dec (g.aY.length<=4)&&(mF LP g.aY&&(gY LP g.bU&&
  (if g.iT=true then dec (g.aF.length=g.aY.length+1)&&nA g.aF g.fBody else dec (g.aF.length=0)&&dec (g.fBody=zeroE)))))
theorem yZ{xs:List ak}{t:ak}(h:t∈xs):t.sz<=bf (xs.map ak.enc):=cB (List.mem_map_of_mem h)
theorem qx{xs:List bS}{t:bS}(h:t∈xs):t.sz<=bf (xs.map bS.enc):=cB (List.mem_map_of_mem h)
theorem bg.sum(x:bg):x.fName.length+(x.aY.length+bf (x.aY.map ak.enc))+x.bU.sz+(x.aF.length+bf (x.aF.map encS))+x.fBody.sz<=x.sz:=by
 simp only[bg.sz,bg.aQ,dz,bW,D.sz,List.length_map,ak.iD,ay.iD];omega
theorem bS.sum(x:bS):x.bG.length+x.fType.sz<=x.sz:=by
 simp only[bS.sz,bS.aQ,dz,bW,D.sz,List.length_map,ak.iD];omega
theorem Xf(e:ay)(h:e.sz<=4194304):(lJ e [] []).length<=1073741824:=by
 have h1:=wS e [] [];have h2:=ay.mR e;simp at h1;omega
theorem PX(t:ak)(h:t.sz<=4194304):(jG [] t).length<=1073741824:=by
 have h1:=BO t [];have h2:=_root_.Go.Ab.mR t;simp at h1;omega
theorem ML(vars:List (List UInt8))(t:ak):gY vars t=(oo t&&among (jG [] t) vars):=rfl
theorem KI(vars:List (List UInt8))(e:ay)(hv:vars.length<=1073741824)(hs:∀s∈vars,s.length<=4194304)(hsz:e.sz<=4194304):aC prog 172 [.c (.d (.sl (vars.map encS))),e.v] (.c (.d (.b (nA vars e)))):=fun S=>by
 refine zcx [.tmp 4] func172 ntmps172 ?_;refine W1 ?_;refine C2 (pG vars hv hs) ?_;refine S0 (fun hb h=>?_) fun hb h=>?_
 ·have h1:=h;refine C2 (Nk e hsz) ?_;refine S0 (fun hb h=>?_) fun hb h=>?_
  ·have h2:=h;refine C2 (PV e hsz) ?_;refine C2 (Bl _ vars (Xf e hsz) hv) ?_;exact aH (by unfold nA GV;rw[h1,h2];rfl)
  ·exact aH (by unfold nA GV;rw[h];simp)
 ·exact aH (by unfold nA;rw[h];rfl)
theorem I4(vars:List (List UInt8))(e:ay)(hv:vars.length<=1073741824)(hsz:e.sz<=4194304):aC prog 200 [e.v,.c (.d (.sl (vars.map encS)))] (.c (.d (.b (GV vars e)))):=fun S=>by
 have hlen:=Xf e hsz;refine zcx [.tmp 4] func200 ntmps200 ?_;refine W1 ?_;refine C2 (PW e hsz) ?_;unfold GV;generalize lJ e [] []=xs at hlen ⊢
 refine aR (ι:=Nat) zmx rfl [1,2,5,6] (fun i=>[.c (.d (.sl (vars.map encS))),.c (.ptr (0,0) 0),.c (.d (.sl (xs.map encS))),.c (.d (.i .i64 i))]) (fun _=>[.box (e.enc.map .d)]::S)
  (fun i=>i<=xs.length/\among (xs.drop i) vars=among xs vars) (fun i=>xs.length-i) 0 rfl ?_ ⟨Nat.zero_le _,rfl⟩ ?_
 ·exact Z1
 rintro i ⟨p1,p2⟩;simp -implicitDefEqProofs (disch:=omega) only[go_sem,encS]
 with_reducible refine dZ (fun hb=> ?_) (fun hb=> ?_)<;>have h:=hb<;>(try simp only[wf_preprocess] at h)<;>simp -implicitDefEqProofs (disch:=omega) only[go_sem,hb,encS]<;>refine W3 ?_
 ·have hi:i<xs.length:=by omega
  rw[List.drop_eq_getElem_cons hi] at p2;have p3:among xs vars=(dec (xs[i]∈vars)&&among (xs.drop (i+1)) vars):=p2.symm;refine W3 ?_;refine C2 (rJ vars xs[i] hv) ?_;refine S0 (fun hb h=>?_) fun hb h=>?_
  ·exact aH (by rw[p3,aK h];simp)
  ·exact bV (i+1) (by omega) rfl rfl ⟨by omega,by rw[p3,bD h];rfl⟩
 ·rw[List.drop_of_length_le (by omega)] at p2;have p3:among xs vars=true:=p2.symm;refine W3 ?_;refine C2 (Nl e hsz) ?_;exact aH (by rw[p3];simp)
theorem PY(vars:List (List UInt8))(hv:vars.length<=1073741824)(rest:List Ab.Obj)(S:Store)(b:bS)(hb:b.sz<=4194304):pE prog 221 [((0,0),0)] ((.box [.d (.sl (vars.map encS))]::rest)::S) [b.v] (.c (.d (.b (!og vars b)))):=fun F=>by
 have hs:=bS.sum b;refine zcx [.tmp 3] func221 ntmps221 ?_;refine W1 ?_;refine C2 (L8 b (by omega) (by omega)) ?_;refine S0 (fun hb h=>?_) fun hb h=>?_
 ·exact aH (by unfold og;rw[h];rfl)
 have h1:=h;refine W3 ?_;refine C2 (Gy b.fType (by omega)) ?_;refine S0 (fun hb h=>?_) fun hb h=>?_
 ·exact aH (by unfold og;rw[h];simp)
 have h2:=h;refine W3 ?_;refine C2 (zI b.fType (by omega)) ?_;refine C2 (Bl _ vars (PX _ (by omega)) hv) ?_;exact aH (by unfold og;rw[h1,h2];simp)
theorem KJ(bs:List bS)(vars:List (List UInt8))(hl:bs.length<=1073741824)(hz:∀b∈bs,b.sz<=4194304)(hv:vars.length<=1073741824):aC prog 170 [.c (.d (.sl (bs.map bS.enc))),.c (.d (.sl (vars.map encS)))] (.c (.d (.b (qC vars bs)))):=fun S=>by
 have ha:(bs.any fun t=> !og vars t)= !bs.all (og vars):=by rw[List.not_all_eq_any_not]
 refine zcx [.tmp 4] func170 ntmps170 ?_;refine W1 ?_;refine S0 (fun hb h=>?_) fun hb h=>?_
 ·have h1:=h;refine W3 ?_;refine cK rfl (Iw 221 [((0,0),0)] _ bs (fun t=> !og vars t) hl fun t hx=>PY vars hv [] S t (hz t hx)) ?_;refine W1 ?_;rw[ha];exact aH (by unfold qC;rw[bD (by omega)];simp)
 ·exact aH (by unfold qC;rw[aK (by omega)];rfl)
theorem MN(bs:List bS)(vars:List (List UInt8))(hl:bs.length<=1073741824)(hz:∀b∈bs,b.sz<=4194304)(hv:vars.length<=1073741824):aC prog 197 [.c (.d (.sl (bs.map bS.enc))),.c (.d (.sl (vars.map encS)))] (.c (.d (.b (qC vars bs)))):=fun S=>by
 refine zcx [.tmp 4] func197 ntmps197 ?_;refine W1 ?_
 refine aR (ι:=Nat) zmx rfl [0,1,5] (fun i=>[.c (.d (.sl (bs.map bS.enc))),.c (.d (.sl (vars.map encS))),.c (.d (.i .i64 i))]) (fun _=>[]::S)
  (fun i=>i<=bs.length/\(bs.drop i).all (og vars)=bs.all (og vars)) (fun i=>bs.length-i) 0 rfl rfl ⟨Nat.zero_le _,rfl⟩ ?_
 rintro i ⟨p1,p2⟩;refine W1 ?_;refine S0 (fun hb h=>?_) fun hb h=>?_
 ·have hi:i<bs.length:=by omega
  have hb:=hz _ (List.getElem_mem hi);have hs:=bS.sum bs[i];rw[List.drop_eq_getElem_cons hi,List.all_cons] at p2;have no:og vars bs[i]=false->V.c (.d (.b false))=V.c (.d (.b (qC vars bs))):=fun h=>aH (by unfold qC;rw[<-p2,h];simp);refine W3 ?_;refine C2 (L6 bs[i] (by omega) (by omega)) ?_;refine S0 (fun hb h=>?_) fun hb h=>?_
  ·exact no (by unfold og;rw[h];rfl)
  have h1:=h;refine W3 ?_;refine C2 (uM bs[i].fType vars (by omega) hv) ?_;refine S0 (fun hb h=>?_) fun hb h=>?_
  ·exact no (by unfold og;rw[ML] at h;rw[Bool.and_eq_true] at h1;rw[h1.2,Bool.true_and] at h;rw[h];simp)
  have h2:=h;refine W3 ?_;refine C2 (Gx bs[i].fType (by omega)) ?_;refine S0 (fun hb h=>?_) fun hb h=>?_
  ·exact no (by unfold og;rw[h];simp)
  have h3:=h;rw[ML,Bool.and_eq_true] at h2;exact bV (i+1) (by omega) rfl rfl ⟨by omega,by rw[<-p2];unfold og;rw[h1,h2.2,h3];rfl⟩
 ·rw[List.drop_of_length_le (by omega)] at p2;exact aH (by unfold qC;rw[<-p2,j5];simp only[List.all_nil,Bool.and_true];exact iC ⟨fun h=>by omega,fun h=>by omega⟩)
theorem Uo(e:ay)(hsz:e.sz<=4194304):aC prog 212 [e.v] (.c (.d (.b (dec (e=zeroE))))):=fun S=>by
 refine zcx [.tmp 2] func212 ntmps212 ?_;refine W1 ?_;exact C3 (Nv e zeroE hsz)
theorem ac0(e:ay)(hsz:e.sz<=4194304):aC prog 235 [e.v] (.c (.d (.b (dec (e=zeroE))))):=fun S=>by
 refine zcx [.tmp 2] func235 ntmps235 ?_;refine W1 ?_;exact C3 (Nw e zeroE hsz)
theorem Rn(g:bg)(hsz:g.sz<=4194304):aC prog 164 [g.v] (.c (.d (.b (iK g)))):=fun S=>by
 have hs:=bg.sum g
 have hT:∀t∈g.aY,t.sz<=4194304:=fun t ht=>by have:=yZ ht;omega
 have hV:∀s∈g.aF,s.length<=4194304:=fun s h=>by have:=sD h;omega
 refine zcx [.tmp 2] func164 ntmps164 ?_;refine W1 ?_;refine C2 (iI g.fName (by omega)) ?_;refine S0 (fun hb h=>?_) fun hb h=>?_
 ·exact aH (by unfold iK;rw[h];rfl)
 have h1:=h;refine S0 (fun hb h=>?_) fun hb h=>?_
 ·exact aH (by unfold iK;rw[aK (show ¬g.aY.length<=4 by omega)];simp)
 have h2:=h;refine W3 ?_;refine C1 (zJ g.aY LP (by omega) hT (by decide)) ?_;refine S0 (fun hb h=>?_) fun hb h=>?_
 ·exact aH (by unfold iK;rw[h];simp)
 have h3:=h;refine W3 ?_;refine C1 (u7 g.bU LP (by omega) (by decide)) ?_;refine S0 (fun hb h=>?_) fun hb h=>?_
 ·exact aH (by unfold iK;rw[h];simp)
 have h4:=h;refine S0 (fun hb h=>?_) fun hb h=>?_
 ·have h5:=h;refine S0 (fun hb h=>?_) fun hb h=>?_
  ·have h6:=h;refine C2 (KI g.aF g.fBody (by omega) hV (by omega)) ?_;exact aH (by unfold iK;rw[h1,h3,h4,if_pos h5,bD (show g.aY.length<=4 by omega),bD (show g.aF.length=g.aY.length+1 by omega)];rfl)
  ·exact aH (by unfold iK;rw[if_pos h5,aK (show ¬g.aF.length=g.aY.length+1 by omega)];simp)
 ·have h5:¬g.iT=true:=by rw[h];simp
  refine S0 (fun hb h=>?_) fun hb h=>?_
  ·refine C2 (Uo g.fBody (by omega)) ?_;exact aH (by unfold iK;rw[h1,h3,h4,if_neg h5,bD (show g.aY.length<=4 by omega),bD (show g.aF.length=0 by omega)];rfl)
  ·exact aH (by unfold iK;rw[if_neg h5,aK (show ¬g.aF.length=0 by omega)];simp)
theorem afL(g:bg)(hsz:g.sz<=4194304):aC prog 191 [g.v] (.c (.d (.b (iK g)))):=fun S=>by
 have hs:=bg.sum g
 have hT:∀t∈g.aY,t.sz<=4194304:=fun t ht=>by have:=yZ ht;omega
 have hV:∀s∈g.aF,s.length<=4194304:=fun s h=>by have:=sD h;omega
 refine zcx [.tmp 2] func191 ntmps191 ?_;refine W1 ?_;refine C2 (iJ g.fName (by omega)) ?_;refine S0 (fun hb h=>?_) fun hb h=>?_
 ·exact aH (by unfold iK;rw[h];rfl)
 have h1:=h;refine S0 (fun hb h=>?_) fun hb h=>?_
 ·exact aH (by unfold iK;rw[aK (show ¬g.aY.length<=4 by omega)];simp)
 have h2:=h;refine W3 ?_;refine C1 (Sv g.aY LP (by omega) hT (by decide)) ?_;refine S0 (fun hb h=>?_) fun hb h=>?_
 ·exact aH (by unfold iK;rw[h];simp)
 have h3:=h;refine W3 ?_;refine C1 (uM g.bU LP (by omega) (by decide)) ?_;refine S0 (fun hb h=>?_) fun hb h=>?_
 ·exact aH (by unfold iK;rw[h];simp)
 have h4:=h;refine S0 (fun hb h=>?_) fun hb h=>?_
 ·have h5:¬g.iT=true:=by rw[h];simp
  refine S0 (fun hb h=>?_) fun hb h=>?_
  ·refine C2 (ac0 g.fBody (by omega)) ?_;exact aH (by unfold iK;rw[h1,h3,h4,if_neg h5,bD (show g.aY.length<=4 by omega),bD (show g.aF.length=0 by omega)];rfl)
  ·exact aH (by unfold iK;rw[if_neg h5,aK (show ¬g.aF.length=0 by omega)];simp)
 ·have h5:=h;refine C2 (mU g.aF 5 (by omega) hV) ?_;refine S0 (fun hb h=>?_) fun hb h=>?_
  ·have h6:=h;rw[Bool.and_eq_true] at h6;refine S0 (fun hb h=>?_) fun hb h=>?_
   ·refine C2 (I4 g.aF g.fBody (by omega) (by omega)) ?_;exact aH (by unfold iK nA;rw[h1,h3,h4,if_pos h5,h6.2,bD (show g.aY.length<=4 by omega),bD (show g.aF.length=g.aY.length+1 by omega)];rfl)
   ·exact aH (by unfold iK;rw[if_pos h5,aK (show ¬g.aF.length=g.aY.length+1 by omega)];simp)
  ·refine aH ?_;by_cases h7:g.aF.length=g.aY.length+1
   ·rw[bD (by omega),Bool.true_and] at h
    unfold iK nA;rw[if_pos h5,h];simp
   ·unfold iK;rw[if_pos h5,aK h7];simp
def uh(f:aV):List (List UInt8):=f.aY.map dG.fName
def PZ(f:aV):List ak:=f.aY.map dG.fType
noncomputable def jL(f:aV):Bool:=
 validName f.fName&&(dec (f.aF.length<=3)&&(iN f.aF&&(qC f.aF f.dh&&(dec (f.aY.length<=5)&&(mF f.aF (PZ f)&&(gY f.aF f.bU&&nA (uh f) f.fBody))))))
theorem aV.sum(x:aV):x.fName.length+(x.aF.length+bf (x.aF.map encS))+(x.dh.length+bf (x.dh.map bS.enc))+(x.aY.length+bf (x.aY.map dG.enc))+x.bU.sz+x.fBody.sz<=x.sz:=by
 simp only[aV.sz,aV.aQ,dz,bW,D.sz,List.length_map,ak.iD,ay.iD];omega
theorem dG.sum(x:dG):x.fName.length+x.fType.sz<=x.sz:=by
 simp only[dG.sz,dG.aQ,dz,bW,D.sz,List.length_map,ak.iD];omega
theorem LQ{xs:List dG}{t:dG}(h:t∈xs):t.sz<=bf (xs.map dG.enc):=cB (List.mem_map_of_mem h)
theorem Uq(ps:List dG)(hl:ps.length<=1073741823):aC prog 174 [.c (.d (.sl (ps.map dG.enc)))] (.c (.d (.sl ((ps.map dG.fName).map encS)))):=fun S=>by
 refine zcx [.tmp 2] func174 ntmps174 ?_;refine W1 ?_;refine W3 ?_;refine lQ 3 1 [] rfl (by simp) ?_
 refine aR (ι:=Nat×List (List UInt8)) zmx rfl [3,7,8,9] (fun y=>[.c (.bB (0,0) (y.2.map encS)),.c (.d (.sl (ps.map dG.enc))),.c (.d (.i .i64 ps.length)),.c (.d (.i .i64 y.1))]) (fun y=>[.tok 1 (y.2.map encS)]::S)
  (fun y=>y.1<=ps.length/\y.2=(ps.map dG.fName).take y.1) (fun y=>ps.length-y.1) (0,[]) rfl rfl ⟨Nat.zero_le _,rfl⟩ ?_
 rintro⟨i,names⟩ ⟨p1,p2⟩;simp only at p1 p2
 have pl:names.length<=ps.length:=by rw[p2];simp;omega
 refine W1 ?_;refine S0 (fun hb h=>?_) fun hb h=>?_
 ·have hi:i<ps.length:=by omega
  refine W3 ?_;rw[show List.map encS names++[[D.s ps[i].fName]]=List.map encS (names++[ps[i].fName]) by simp[encS]];exact bL 1 (by decide) (i+1,names++[ps[i].fName]) (by simp only;omega) rfl rfl rfl rfl ⟨by simp only;omega,by simp only;rw[p2,iU (by simpa using hi)];simp⟩
 ·rw[List.take_of_length_le (by simp;omega)] at p2;rw[p2]
theorem Ur(ps:List dG)(hl:ps.length<=1073741823):aC prog 173 [.c (.d (.sl (ps.map dG.enc)))] (.c (.d (.sl ((ps.map dG.fType).map ak.enc)))):=fun S=>by
 refine zcx [.tmp 2] func173 ntmps173 ?_;refine W1 ?_;refine W3 ?_;refine lQ 3 3 [] rfl (by simp) ?_
 refine aR (ι:=Nat×List ak) zmx rfl [3,7,8,9] (fun y=>[.c (.bB (0,0) (y.2.map ak.enc)),.c (.d (.sl (ps.map dG.enc))),.c (.d (.i .i64 ps.length)),.c (.d (.i .i64 y.1))]) (fun y=>[.tok 3 (y.2.map ak.enc)]::S)
  (fun y=>y.1<=ps.length/\y.2=(ps.map dG.fType).take y.1) (fun y=>ps.length-y.1) (0,[]) rfl rfl ⟨Nat.zero_le _,rfl⟩ ?_
 rintro⟨i,names⟩ ⟨p1,p2⟩;simp only at p1 p2
 have pl:names.length<=ps.length:=by rw[p2];simp;omega
 refine W1 ?_;refine S0 (fun hb h=>?_) fun hb h=>?_
 ·have hi:i<ps.length:=by omega
  refine W3 ?_;rw[show List.map ak.enc names++[[D.i .i64 ps[i].fType.aM,D.s ps[i].fType.fName,D.sl (ps[i].fType.fArgs.map ak.enc)]]=List.map ak.enc (names++[ps[i].fType]) by simp[ak.aQ]];exact bL 1 (by decide) (i+1,names++[ps[i].fType]) (by simp only;omega) rfl rfl rfl rfl ⟨by simp only;omega,by simp only;rw[p2,iU (by simpa using hi)];simp⟩
 ·rw[List.take_of_length_le (by simp;omega)] at p2;rw[p2]
theorem GX(f:aV)(hsz:f.sz<=4194304):aC prog 110 [f.v] (.c (.d (.b (jL f)))):=fun S=>by
 have hs:=aV.sum f
 have hV:∀s∈f.aF,s.length<=4194304:=fun s h=>by have:=sD h;omega
 have hW:∀b∈f.dh,b.sz<=4194304:=fun b h=>by have:=qx h;omega
 have hP:∀p∈f.aY,p.sz<=4194304:=fun m h=>by have:=LQ h;omega
 have hpt:∀t∈f.aY.map dG.fType,t.sz<=4194304:=fun t h=>by
  obtain⟨p,hp,e⟩:=List.mem_map.1 h;have:=hP p hp;have:=dG.sum p;rw[<-e];omega
 have hpn:∀s∈f.aY.map dG.fName,s.length<=4194304:=fun t h=>by
  obtain⟨p,hp,e⟩:=List.mem_map.1 h;have:=hP p hp;have:=dG.sum p;rw[<-e];omega
 have hpl:(f.aY.map dG.fName).length=f.aY.length:=by simp
 have hpl':(f.aY.map dG.fType).length=f.aY.length:=by simp
 refine zcx [.tmp 2] func110 ntmps110 ?_;refine W1 ?_
 repeat' (first
  |refine S0 (fun hb h=>?_) fun hb h=>?_
  |((with_reducible show fA _ _ 103 _ _ _ _);refine aX (iI f.fName (by omega)) ?_;refine W1 ?_)
  |((with_reducible show fA _ _ 104 _ _ _ _);refine aX (pG f.aF (by omega) hV) ?_;refine W1 ?_)
  |((with_reducible show fA _ _ 170 _ _ _ _);refine aX (KJ f.dh f.aF (by omega) hW (by omega)) ?_;refine W1 ?_)
  |((with_reducible show fA _ _ 173 _ _ _ _);refine aX (Ur f.aY (by omega)) ?_;refine W1 ?_)
  |((with_reducible show fA _ _ 165 _ _ _ _);refine aX (zJ (f.aY.map dG.fType) f.aF (by omega) hpt (by omega)) ?_;refine W1 ?_)
  |((with_reducible show fA _ _ 166 _ _ _ _);refine aX (u7 f.bU f.aF (by omega) (by omega)) ?_;refine W1 ?_)
  |((with_reducible show fA _ _ 174 _ _ _ _);refine aX (Uq f.aY (by omega)) ?_;refine W1 ?_)
  |((with_reducible show fA _ _ 172 _ _ _ _);refine aX (KI (f.aY.map dG.fName) f.fBody (by omega) hpn (by omega)) ?_;refine W1 ?_)
  |(refine aH ?_;unfold jL PZ uh;grind [gq,jc,bD,aK]))
theorem AL(f:aV)(hsz:f.sz<=4194304):aC prog 141 [f.v] (.c (.d (.b (jL f)))):=fun S=>by
 have hs:=aV.sum f
 have hV:∀s∈f.aF,s.length<=4194304:=fun s h=>by have:=sD h;omega
 have hW:∀b∈f.dh,b.sz<=4194304:=fun b h=>by have:=qx h;omega
 have hP:∀p∈f.aY,p.sz<=4194304:=fun m h=>by have:=LQ h;omega
 have hpn:∀s∈uh f,s.length<=4194304:=fun t h=>by
  obtain⟨p,hp,e⟩:=List.mem_map.1 h;have:=hP p hp;have:=dG.sum p;rw[<-e];omega
 have hnl:(uh f).length=f.aY.length:=by simp[uh]
 have bad:∀i,∀hi:i<f.aY.length,gY f.aF f.aY[i].fType=false->V.c (.d (.b false))=V.c (.d (.b (jL f))):=fun i hi h=>aH (by
  have:mF f.aF (PZ f)=false:=Bool.eq_false_iff.2 fun hx=>by
   have:=List.all_eq_true.1 hx f.aY[i].fType (List.mem_map_of_mem (List.getElem_mem hi));rw[h] at this;cases this
  unfold jL
  rw[this];simp)
 refine zcx [.tmp 2] func141 ntmps141 ?_;refine W1 ?_;refine W3 ?_;refine lQ 3 1 [] rfl (by simp) ?_
 refine aR (ι:=Nat×List (List UInt8)) zmx rfl [1,3,4] (fun y=>[.c (.ptr (0,0) 0),.c (.bB (0,1) (y.2.map encS)),.c (.d (.i .i64 y.1))]) (fun y=>[.box (f.enc.map .d),.tok 1 (y.2.map encS)]::S)
  (fun y=>y.1<=f.aY.length/\y.2=(uh f).take y.1/\∀j,∀hj:j<f.aY.length,j<y.1->gY f.aF f.aY[j].fType=true) (fun y=>f.aY.length-y.1) (0,[]) rfl ?_ ⟨Nat.zero_le _,rfl,fun j _ h=>by simp only at h;omega⟩ ?_
 ·exact Z1
 rintro⟨i,names⟩ ⟨p1,p2,p3⟩;simp only at p1 p2 p3
 have pl:names.length<=f.aY.length:=by rw[p2];simp[uh];omega
 refine W1 ?_;refine S0 (fun hb h=>?_) fun hb h=>?_
 ·have hi:i<f.aY.length:=by omega
  have hp:=hP _ (List.getElem_mem hi);have hps:=dG.sum f.aY[i];refine W3 ?_;refine C2 (uM f.aY[i].fType f.aF (by omega) (by omega)) ?_;refine S0 (fun hb h=>?_) fun hb h=>?_
  ·exact bad i hi h
  have k3:=h;refine W3 ?_;rw[show List.map encS names++[[D.s f.aY[i].fName]]=List.map encS (names++[f.aY[i].fName]) by simp[encS]]
  exact bV (i+1,names++[f.aY[i].fName]) (by simp only;omega) rfl rfl ⟨by simp only;omega,by simp only;rw[p2,iU (by simpa [uh] using hi)];simp[uh],fun j hj hji=>by
   simp only at hji;by_cases e:j=i
   ·subst e;exact k3
   ·exact p3 j hj (by omega)⟩
 have hi:i=f.aY.length:=by omega
 have hn:names=uh f:=by rw[p2,List.take_of_length_le (by simp[uh];omega)]
 have hall:mF f.aF (PZ f)=true:=List.all_eq_true.2 fun c hc=>by
  obtain⟨p,hp,e⟩:=List.mem_map.1 hc;obtain⟨j,hj,e'⟩:=List.getElem_of_mem hp;rw[<-e,<-e'];exact p3 j hj (by omega)
 clear p2 p3 bad;subst hn
 repeat' (first
  |refine S0 (fun hb h=>?_) fun hb h=>?_
  |((with_reducible show fA _ _ 120 _ _ _ _);refine aX (iJ f.fName (by omega)) ?_;refine W1 ?_)
  |((with_reducible show fA _ _ 121 _ _ _ _);refine aX (mU f.aF 3 (by omega) hV) ?_;refine W1 ?_)
  |((with_reducible show fA _ _ 197 _ _ _ _);refine aX (MN f.dh f.aF (by omega) hW (by omega)) ?_;refine W1 ?_)
  |((with_reducible show fA _ _ 121 _ _ _ _);refine aX (mU (uh f) 5 (by omega) hpn) ?_;refine W1 ?_)
  |((with_reducible show fA _ _ 195 _ _ _ _);refine aX (uM f.bU f.aF (by omega) (by omega)) ?_;refine W1 ?_)
  |((with_reducible show fA _ _ 200 _ _ _ _);refine aX (I4 (uh f) f.fBody (by omega) (by omega)) ?_;refine W1 ?_)
  |(refine aH ?_;unfold jL nA;grind [gq,jc,bD,aK]))
def EF(n:Nat)(s:St):St:=match s.st with
 |(.seed _::own)::Ω=>⟨s.tm,(.seed n::own)::Ω⟩
 |_=>s
theorem GY{N:Nat}(n:Nat)(s:St):gU N s (EF n s):=by
 obtain⟨tm,st⟩:=s;unfold EF;split
 ·rename_i h;simp only at h;subst h;exact Ee n
 ·exact gU.refl _ _
theorem Zl{n m:Nat}{tm:List (Nat×V)}{own:List Obj}{Ω:Store}:EF n ⟨tm,(.seed m::own)::Ω⟩=⟨tm,(.seed n::own)::Ω⟩:=rfl
def ake(j p n:Nat)(s:St):St:=EF n (UN j p s)
theorem F7{N:Nat}(j p n:Nat)(s:St):gU N s (ake j p n s):=(MI j p s).trans (GY n _)
attribute [go_sem] ake Zl
def wT:List UInt8:=[102,110]
def qy(b:bS):aj:=bq [bF b.bG,bZ b.fType]
def qR(b:dG):aj:=bq [bF b.fName,bZ b.fType]
def vv(f:aV):aj:=bq [bF wT,bF f.fName,bq (aP f.aF),bq (f.dh.map qy),bq (f.aY.map qR),bZ f.bU,fu f.fBody]
noncomputable def CF(f:aV):aj:=qM (jL f) (vv f)
theorem alH{f:aV}(h:f.sz<=1048576):(CF f).sz<=1048576:=Nat.le_trans (GH _ _) (by decide)
theorem anH(b:bS):(qy b).sz<=14+16*b.sz:=by
 have:=BS b.fType;have:=bS.sum b;rw[qy,jh];simp[cZ,jI];omega
theorem ai7(b:dG):(qR b).sz<=14+16*b.sz:=by
 have:=BS b.fType;have:=dG.sum b;rw[qR,jh];simp[cZ,jI];omega
theorem Ro:∀l:List bS,cZ (l.map qy)<=14*l.length+16*bf (l.map bS.enc)
 |[]=>by simp[cZ]
 |c::l=>by
  have h1:=anH c;have h2:=Ro l;rw[List.map_cons,cZ,List.map_cons,bf,List.length_cons];simp only[bS.sz] at h1;omega
theorem Te:∀l:List dG,cZ (l.map qR)<=14*l.length+16*bf (l.map dG.enc)
 |[]=>by simp[cZ]
 |c::l=>by
  have h1:=ai7 c;have h2:=Te l;rw[List.map_cons,cZ,List.map_cons,bf,List.length_cons];simp only[dG.sz] at h1;omega
theorem Xg{f:aV}(hok:iV f.fBody=true):(vv f).sz<=60+32*f.sz:=by
 have h1:=Ro f.dh;have h2:=Te f.aY;have h3:=BS f.bU;have h4:=KD f.fBody hok;have h5:=aV.sum f;rw[dB] at h5;rw[vv,jh];simp[cZ,jI,jh,jA,qY,wT];omega
theorem C8{vars:List (List UInt8)}{bs:List bS}(h:qC vars bs=true):∀b∈bs,formed b.fType=true:=fun b hb=>by
 unfold qC at h;rw[Bool.and_eq_true] at h;have h2:=List.all_eq_true.1 h.2 b hb;unfold og at h2;simp only[Bool.and_eq_true] at h2;exact wL h2.1.2
theorem vW{vars:List (List UInt8)}{t:ak}(h:gY vars t=true):formed t=true:=by
 unfold gY at h;rw[Bool.and_eq_true] at h;exact wL h.1
theorem Fv{vars:List (List UInt8)}{e:ay}(h:nA vars e=true):iV e=true:=by
 unfold nA GV at h;simp only[Bool.and_eq_true] at h;exact Xc h.2.1
theorem vw{f:aV}(h:jL f=true):(∀b∈f.dh,formed b.fType=true)/\(∀q∈f.aY,formed q.fType=true)/\formed f.bU=true/\iV f.fBody=true:=by
 unfold jL at h;simp only[Bool.and_eq_true] at h;obtain⟨_,_,_,h1,_,h2,h3,h4⟩:=h;exact⟨C8 h1,fun q hq=>xS.1 (yE h2) _ (List.mem_map_of_mem hq),vW h3,Fv h4⟩
theorem vB(xs:List bS)(n:Nat)(hfo:∀b∈xs,formed b.fType=true)(hlen:xs.length<=4194304)(hsz:∀b∈xs,b.sz<=4194304):aC prog 129 [.c (.d (.sl (xs.map bS.enc)))] (.agg [.d (.s []),.d (.ol n (lx (xs.map qy) (n+1)))]):=fun S=>by
 obtain⟨L,hL⟩:∃L:Nat->Nat,L=fun i=>n+1+iQ ((xs.map qy).take i):=⟨_,rfl⟩;obtain⟨T,hT⟩:∃T:Nat->List (List D),T=fun i=>lx ((xs.map qy).take i) (n+1):=⟨_,rfl⟩
 have hT0:T 0=[]:=by rw[hT];rfl
 have fP:∀i,(T i).length<=i:=fun i=>by
  rw[hT];simp only[gH];exact List.length_take_le _ _
 have hTs:∀i (hi:i<xs.length),T i++[[.s [],.ol (L i) [[.s xs[i].bG,.ol (L i+1) []],[.s (bZ xs[i].fType).aG,.ol (L i+1+1) (lx (bZ xs[i].fType).ah (L i+1+1+1))]]]]=T (i+1):=fun i hi=>by
  have:=AA (l:=xs.map qy) (i:=i) (by rw[List.length_map];exact hi) (n+1);rw[List.getElem_map,qy,dW,bY,jK,jK,ny,wR,jJ,jZ] at this;rw[hT,hL];exact this
 have hTe:T xs.length=lx (xs.map qy) (n+1):=by
  rw[hT];simp only
  rw[List.take_of_length_le (by simp)]
 clear hT hL;refine qQ (n) 1 (rs:=[.cell 2 64]) zmx func129 ntmps129 rfl rfl rfl rfl rfl ?_;refine W1 ?_;refine W3 ?_;refine lD n 3 2 [] (.inl rfl) (by simp) ?_;refine om (L 0) ?_
 refine aR (ι:=Nat) zmx rfl [2,3,7,8,9] (fun i=>[.c (.ptr (0,2) 0),.c (.bB (0,3) (T i)),.c (.d (.sl (xs.map bS.enc))),.c (.d (.i .i64 xs.length)),.c (.d (.i .i64 i))])
  (fun i=>[.seed (L i),.seed 1,.box [.d (.s []),.bn []],.eu n 2 (T i)]::S)
  (fun i=>i<=xs.length) (fun i=>xs.length-i) 0 (by rw[hT0];rfl) (by rw[hT0];rfl) (Nat.zero_le _) ?_
 intro i hi;have hl:=fP i;refine W1 ?_;refine S0 (fun hb h=>?_) fun hb h=>?_
 ·have hi':i<xs.length:=by omega
  have hm:=List.getElem_mem hi';have hcz:=hsz _ hm;have hce:=bS.sum xs[i];have hs:=hTs i hi';refine W3 ?_;refine C1 (cO _ (L i+1)) ?_;refine C1 (lY xs[i].fType (L i+1+1) (hfo _ hm) (by omega)) ?_;refine W3 ?_;refine C1 (nR _ _) ?_;refine W3 ?_;rw[hs];refine kS (L (i+1)) 3 (by decide) (i+1) (by omega) rfl rfl ?_ rfl (by omega);simp[iR,gV,V.refs,C.refs,kr]
 ·have hi':i=xs.length:=by omega
  refine cK rfl (kg 0 3 _ _) ?_;refine W1 ?_;rw[hi',hTe]
theorem CG(f:aV)(n:Nat)(hv:jL f=true)(hsz:f.sz<=1048576):aC prog 70 [f.v] (.agg [.d (.s []),.d (.ol n (lx (vv f).ah (n+1)))]):=fun S=>by
 have hdz:=aV.sum f;rw[dB] at hdz;obtain⟨hf1,hf2,hf3,Fw⟩:=vw hv;obtain⟨p,hp⟩:∃p:Nat,p=n+1+1+1+dQ (bq (aP f.aF))+dQ (bq (f.dh.map qy)):=⟨_,rfl⟩;obtain⟨L,hL⟩:∃L:Nat->Nat,L=fun i=>p+1+iQ ((f.aY.map qR).take i):=⟨_,rfl⟩;obtain⟨T,hT⟩:∃T:Nat->List (List D),T=fun i=>lx ((f.aY.map qR).take i) (p+1):=⟨_,rfl⟩
 have hT0:T 0=[]:=by rw[hT];rfl
 have fP:∀i,(T i).length<=i:=fun i=>by
  rw[hT];simp only[gH];exact List.length_take_le _ _
 have hTs:∀i (hi:i<f.aY.length),T i++[[.s [],.ol (L i) [[.s f.aY[i].fName,.ol (L i+1) []],[.s (bZ f.aY[i].fType).aG,.ol (L i+1+1) (lx (bZ f.aY[i].fType).ah (L i+1+1+1))]]]]=T (i+1):=fun i hi=>by
  have:=AA (l:=f.aY.map qR) (i:=i) (by rw[List.length_map];exact hi) (p+1);rw[List.getElem_map,qR,dW,bY,jK,jK,ny,wR,jJ,jZ] at this;rw[hT,hL];exact this
 have hTe:T f.aY.length=lx (f.aY.map qR) (p+1):=by
  rw[hT];simp only
  rw[List.take_of_length_le (by simp)]
 clear hT hL;refine qQ (p) 1 (rs:=[.cell 2 64]) zmx func70 ntmps70 rfl rfl rfl rfl rfl ?_;refine W1 ?_;refine W3 ?_;refine lD p 3 2 [] (.inl rfl) (by simp) ?_;refine om (L 0) ?_;refine wD (F7 4 p n) ?_
 refine aR (ι:=Nat) zmx rfl [1,2,3,8,9,10] (fun i=>[.c (.ptr (0,2) 0),.c (.ptr (0,3) 0),.c (.bB (0,4) (T i)),.c (.d (.sl (f.aY.map dG.enc))),.c (.d (.i .i64 f.aY.length)),.c (.d (.i .i64 i))])
  (fun i=>[.seed (L i),.seed 1,.box [.d (.s f.fName),.d (.sl (f.aF.map encS)),.d (.sl (f.dh.map bS.enc)),.d (.sl (f.aY.map dG.enc)),.d (.i .i64 f.bU.aM),.d (.s f.bU.fName),.d (.sl (f.bU.fArgs.map ak.enc)),.d (.i .i64 f.fBody.aM),.d (.s f.fBody.bG),.d (.s f.fBody.fName),.d (.i .i64 f.fBody.fN),.d (.i .i64 f.fBody.fType.aM),.d (.s f.fBody.fType.fName),.d (.sl (f.fBody.fType.fArgs.map ak.enc)),.d (.sl (f.fBody.fArgs.map ay.enc)),.d (.sl (f.fBody.aS.map aZ.enc))],.box [.d (.s []),.bn []],.eu p 2 (T i)]::S)
  (fun i=>i<=f.aY.length) (fun i=>f.aY.length-i) 0 (by rw[hT0];rfl) (by rw[hT0];rfl) (Nat.zero_le _) ?_
 intro i hi;have hl:=fP i;refine W1 ?_;refine S0 (fun hb h=>?_) fun hb h=>?_
 ·have hi':i<f.aY.length:=by omega
  have hm:=List.getElem_mem hi';have hcz:=LQ hm;have hce:=dG.sum f.aY[i];have hs:=hTs i hi';refine W3 ?_;refine C1 (cO _ (L i+1)) ?_;refine C1 (lY f.aY[i].fType (L i+1+1) (hf2 _ hm) (by omega)) ?_;refine W3 ?_;refine C1 (nR _ _) ?_;refine W3 ?_;rw[hs];refine kS (L (i+1)) 4 (by decide) (i+1) (by omega) rfl rfl ?_ rfl (by omega);simp[iR,gV,V.refs,C.refs,kr]
 ·have hi':i=f.aY.length:=by omega
  subst hi';rw[hTe];refine C1 (cO _ (n+1)) ?_;refine C1 (cO _ (n+1+1)) ?_;refine C1 (dY f.aF (by omega) (n+1+1+1)) ?_;refine C1 (vB f.dh (n+1+1+1+dQ (bq (aP f.aF))) hf1 (by omega) (fun b hb=>by have:=qx hb;omega)) ?_;refine C1 (lq _) ?_;refine C1 (lY f.bU (p+dQ (bq (f.aY.map qR))) hf3 (by omega)) ?_;refine C1 (zV f.fBody (p+dQ (bq (f.aY.map qR))+dQ (bZ f.bU)) Fw (by omega)) ?_;refine W3 ?_;refine C1 (nR _ _) ?_;rw[vv,bY];simp only[jK,ny,jJ,kX,kY,dW,bY,jZ,<-hp,wT]
theorem wU(xs:List bS)(hlen:xs.length<=4194304)(hsz:∀b∈xs,b.sz<=4194304):aC prog 140 [.c (.d (.sl (xs.map bS.enc)))] (.agg [.d (.s []),.d (.sl ((xs.map qy).map aj.enc))]):=fun S=>by
 obtain⟨T,hT⟩:∃T:Nat->List (List D),T=fun i=>((xs.map qy).take i).map aj.enc:=⟨_,rfl⟩
 have hT0:T 0=[]:=by rw[hT];rfl
 have fP:∀i,(T i).length<=i:=fun i=>by
  rw[hT];simp only[List.length_map];exact List.length_take_le _ _
 have hTs:∀i (hi:i<xs.length),T i++[[.s [],.sl [[.s xs[i].bG,.sl []],[.s (bZ xs[i].fType).aG,.sl ((bZ xs[i].fType).ah.map aj.enc)]]]]=T (i+1):=fun i hi=>by
  have:=ji (base:=[]) (l:=xs.map qy) (i:=i) (by rw[List.length_map];exact hi);rw[List.getElem_map,qy,dW,bY,List.map_cons,List.map_cons,List.map_nil,fB,aj.aQ (bZ xs[i].fType)] at this;rw[hT];exact this
 have hTe:T xs.length=(xs.map qy).map aj.enc:=by
  rw[hT];simp only
  rw[List.take_of_length_le (by simp)]
 clear hT;refine zcx [.cell 2 64] func140 ntmps140 ?_;refine W1 ?_;refine su 1 1 2 [] [.d (.s []),.bn []] rfl rfl (by simp) ?_
 refine aR (ι:=Nat) zmx rfl [0,2,3,4] (fun i=>[.c (.d (.sl (xs.map bS.enc))),.c (.ptr (0,0) 0),.c (.ptr (0,1) 0),.c (.d (.i .i64 i))])
  (fun i=>[.box [.d (.s []),.bn []],.box [.d (.s []),.bB (0,2) (T i)],.tok 2 (T i)]::S)
  (fun i=>i<=xs.length) (fun i=>xs.length-i) 0 rfl (by rw[hT0];rfl) (Nat.zero_le _) ?_
 intro i hi;have hl:=fP i;refine W1 ?_;refine S0 (fun hb h=>?_) fun hb h=>?_
 ·have hi':i<xs.length:=by omega
  have hm:=List.getElem_mem hi';have hcz:=hsz _ hm;have hce:=bS.sum xs[i];have hs:=hTs i hi';refine W3 ?_;refine C1 (bN _) ?_;refine W3 ?_;refine C1 (mG xs[i].fType (by omega)) ?_;refine W3 ?_;refine C1 (nI _ (by simp) (by simp)) ?_;refine W3 ?_;rw[hs];exact bV (i+1) (by omega) rfl rfl (by omega)
 ·have hi':i=xs.length:=by omega
  subst hi';rw[hTe]
theorem KL(f:aV)(hsz:f.sz<=1048576):aC prog 84 [f.v] (CF f).v:=by
 unfold CF
 cases hv:jL f with
 |false=>
  rw[qM];refine aC.less (fun S=> ?_) (AJ [] []);refine zcx [.cell 2 64] func84 ntmps84 ?_;refine W1 ?_;refine aX (AL f (by omega)) ?_;simp -implicitDefEqProofs (disch:=omega) only[go_sem,hv]
 |true=>
  intro S;have hdz:=aV.sum f;rw[dB] at hdz;obtain⟨hf1,hf2,hf3,Fw⟩:=vw hv;have hz:=Xg Fw;obtain⟨T,hT⟩:∃T:Nat->List (List D),T=fun i=>((f.aY.map qR).take i).map aj.enc:=⟨_,rfl⟩
  have hT0:T 0=[]:=by rw[hT];rfl
  have fP:∀i,(T i).length<=i:=fun i=>by
   rw[hT];simp only[List.length_map];exact List.length_take_le _ _
  have hTs:∀i (hi:i<f.aY.length),T i++[[.s [],.sl [[.s f.aY[i].fName,.sl []],[.s (bZ f.aY[i].fType).aG,.sl ((bZ f.aY[i].fType).ah.map aj.enc)]]]]=T (i+1):=fun i hi=>by
   have:=ji (base:=[]) (l:=f.aY.map qR) (i:=i) (by rw[List.length_map];exact hi);rw[List.getElem_map,qR,dW,bY,List.map_cons,List.map_cons,List.map_nil,fB,aj.aQ (bZ f.aY[i].fType)] at this;rw[hT];exact this
  have hTe:T f.aY.length=(f.aY.map qR).map aj.enc:=by
   rw[hT];simp only
   rw[List.take_of_length_le (by simp)]
  clear hT;refine zcx [.cell 2 64] func84 ntmps84 ?_;refine W1 ?_;refine aX (AL f (by omega)) ?_;simp -implicitDefEqProofs (disch:=omega) only[go_sem,hv];refine su 2 1 2 [] [.d (.s []),.bn []] rfl rfl (by simp) ?_
  refine aR (ι:=Nat) zmx rfl [1,2,3,4] (fun i=>[.c (.ptr (0,0) 0),.c (.ptr (0,1) 0),.c (.ptr (0,2) 0),.c (.d (.i .i64 i))])
   (fun i=>[.box [.d (.s f.fName),.d (.sl (f.aF.map encS)),.d (.sl (f.dh.map bS.enc)),.d (.sl (f.aY.map dG.enc)),.d (.i .i64 f.bU.aM),.d (.s f.bU.fName),.d (.sl (f.bU.fArgs.map ak.enc)),.d (.i .i64 f.fBody.aM),.d (.s f.fBody.bG),.d (.s f.fBody.fName),.d (.i .i64 f.fBody.fN),.d (.i .i64 f.fBody.fType.aM),.d (.s f.fBody.fType.fName),.d (.sl (f.fBody.fType.fArgs.map ak.enc)),.d (.sl (f.fBody.fArgs.map ay.enc)),.d (.sl (f.fBody.aS.map aZ.enc))],.box [.d (.s []),.bn []],.box [.d (.s []),.bB (0,3) (T i)],.tok 2 (T i)]::S)
   (fun i=>i<=f.aY.length) (fun i=>f.aY.length-i) 0 rfl (by rw[hT0];rfl) (Nat.zero_le _) ?_
  intro i hi;have hl:=fP i;refine W1 ?_;refine S0 (fun hb h=>?_) fun hb h=>?_
  ·have hi':i<f.aY.length:=by omega
   have hm:=List.getElem_mem hi';have hcz:=LQ hm;have hce:=dG.sum f.aY[i];have hs:=hTs i hi';refine W3 ?_;refine C1 (bN _) ?_;refine W3 ?_;refine C1 (mG f.aY[i].fType (by omega)) ?_;refine W3 ?_;refine C1 (nI _ (by simp) (by simp)) ?_;refine W3 ?_;rw[hs];exact bV (i+1) (by omega) rfl rfl (by omega)
  ·have hi':i=f.aY.length:=by omega
   subst hi';rw[hTe];refine C1 (bN _) ?_;refine C1 (bN _) ?_;refine C1 (dU f.aF (by omega)) ?_;refine C1 (wU f.dh (by omega) (fun b hb=>by have:=qx hb;omega)) ?_;refine C1 (mG f.bU (by omega)) ?_;refine C1 (uy f.fBody Fw (by omega)) ?_;refine W3 ?_;refine C1 (nI _ (by simp) (by simp)) ?_;refine W3 ?_;have hI:=q8 true (vv f) (by omega)
   have hx:(vv f).v=V.agg [.d (.s []),.d (.sl [[.s [102,110],.sl []],[.s f.fName,.sl []],[.s [],.sl ((aP f.aF).map aj.enc)],[.s [],.sl ((f.dh.map qy).map aj.enc)],[.s [],.sl ((f.aY.map qR).map aj.enc)],[.s (bZ f.bU).aG,.sl ((bZ f.bU).ah.map aj.enc)],[.s (fu f.fBody).aG,.sl ((fu f.fBody).ah.map aj.enc)]])]:=by
    rw[vv];show V.agg [.d (.s []),.d (.sl (List.map aj.enc _))]=_;simp only[bY,List.map_cons,List.map_nil,fB,jE,aj.aQ (bZ f.bU),aj.aQ (fu f.fBody),wT]
   rw[hx] at hI;refine aX hI ?_;exact Z1
end Go.Ab