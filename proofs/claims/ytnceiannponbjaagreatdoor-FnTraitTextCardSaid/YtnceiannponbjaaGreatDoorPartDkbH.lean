/-
  SEVERAL TEXTS IN ONE (merged by program): contracts and models, each with its own heading.
-/
import Derived.Test.YtnceiannponbjaaGreatDoorPartDkbD
import Derived.Test.YtnceiannponbjaaGreatDoorPartDkbG
import Derived.Lib.ItoaNum
import Derived.Shelf.LaysM
import Derived.Shelf.Strconv.Itoa3
import Derived.Test.YtnceiannponbjaaGreatDoorProg
open Go.Proofs Go.Proofs.Tryz
set_option linter.unusedSimpArgs false
set_option linter.unusedVariables false
set_option maxRecDepth 4000
namespace Go.Ab
def bn(s:List UInt8):ah:=.mk s []
def dA(l:List ah):ah:=.mk [] l
def aP(l:List (List UInt8)):List ah:=l.map bn
def eH:ah:=.mk [] []
theorem kP(s:List UInt8):(bn s).aQ=s:=rfl
theorem kQ(s:List UInt8):(bn s).aj=[]:=rfl
theorem eu(l:List ah):(dA l).aQ=[]:=rfl
theorem dX(l:List ah):(dA l).aj=l:=rfl
def Cg:List UInt8:=[100,121,110]
def fT:List UInt8:=[97,115,115,111,99]
mutual
def dK:ak->ah
 | .mk k n zs=>if k=1 then bn ([39]++n) else if k=4 then dA [bn Cg,bn n] else if k=2/\zs.length=0 then bn n else
   dA ((if k=3 then [bn fT] else [])++[bn n]++zm zs)
def zm:List ak->List ah
 |[]=>[]
 |t::ts=>dK t::zm ts
end
theorem rE:∀l,zm l=l.map dK
 |[]=>rfl
 |t::ts=>by rw[zm,List.map_cons,rE ts]
theorem Yp(x:ak):dK x=if x.aL=1 then bn ([39]++x.fName) else if x.aL=4 then dA [bn Cg,bn x.fName] else if x.aL=2/\x.fArgs.length=0 then bn x.fName else
 dA ((if x.aL=3 then [bn fT] else [])++[bn x.fName]++x.fArgs.map dK):=by
 cases x;rw[dK,rE];rfl
theorem uT{t:ak}(h:rC t=true):formed t=true:=(iX h).1
theorem gY(x:ah):x.sz=x.aQ.length+(x.aj.length+bC (x.aj.map ah.enc)):=by
 simp only[ah.sz,ah.aB,bN,D.sz,List.length_map];omega
def dG:List ah->Nat
 |[]=>0
 |x::xs=>x.sz+dG xs
theorem jC:∀l,bC (l.map ah.enc)=dG l
 |[]=>rfl
 |x::xs=>by rw[List.map_cons,bC,dG,jC xs];rfl
theorem kR:∀a b,dG (a++b)=dG a+dG b
 |[],b=>by simp[dG]
 |x::a,b=>by rw[List.cons_append,dG,dG,kR a b];omega
theorem jL{x:ah}:∀{l:List ah},x∈l->x.sz<=dG l
 |y::l,h=>by
  rw[dG];rcases List.mem_cons.1 h with rfl|h
  ·omega
  ·have:=jL h;omega
theorem mE(s:List UInt8):(bn s).sz=s.length:=by rw[gY];simp[bn,ah.aQ,ah.aj,bC]
theorem qF(l:List ah):(dA l).sz=l.length+dG l:=by rw[gY,jC];simp[dA,ah.aQ,ah.aj]
theorem wS:∀l:List (List UInt8),dG (aP l)=(l.map List.length).sum
 |[]=>rfl
 |s::l=>by rw[aP,List.map_cons,dG,mE,<-aP,wS l,List.map_cons,List.sum_cons]
theorem kC(l:List (List UInt8)):(aP l).length=l.length:=by simp[aP]
theorem fJ:∀l:List (List UInt8),bC (l.map encS)=(l.map List.length).sum
 |[]=>rfl
 |s::l=>by rw[List.map_cons,bC,fJ l,List.map_cons,List.sum_cons];simp[encS,bN,D.sz]
def qP:List ak->Nat
 |[]=>0
 |x::xs=>x.sz+qP xs
theorem Ch:∀l,bC (l.map ak.enc)=qP l
 |[]=>rfl
 |x::xs=>by rw[List.map_cons,bC,qP,Ch xs];rfl
theorem rF(x:ak):x.sz=x.fName.length+(x.fArgs.length+qP x.fArgs):=by
 rw[<-Ch];simp only[ak.sz,ak.aB,bN,D.sz,List.length_map];omega
mutual
theorem O7:∀x:ak,(dK x).sz<=12+16*x.sz
 | .mk k n zs=>by
   have h:=KF zs;rw[rF];simp only[ak.fName,ak.fArgs];rw[dK];split
   ·rw[mE];simp;omega
   ·split
    ·rw[qF];simp[dG,mE,Cg];omega
    ·split
     ·rw[mE];omega
     ·rw[qF,kR,kR,List.length_append,List.length_append,rE,List.length_map,<-rE];split<;>simp[dG,mE,fT]<;>omega
theorem KF:∀xs:List ak,dG (zm xs)<=12*xs.length+16*qP xs
 |[]=>by simp[zm,dG]
 |x::xs=>by
  have h1:=O7 x;have h2:=KF xs;rw[zm,dG,qP,List.length_cons];omega
end
theorem Va(xs:List ak):dG (xs.map dK)<=12*xs.length+16*qP xs:=by rw[<-rE];exact KF xs
def jD(b:UInt8):Bool:=decide (97<=b.toNat/\b.toNat<=122)||decide (48<=b.toNat/\b.toNat<=57)||decide (b∈([39,45,43,42,60,61,46]:List UInt8))
def validAtom(s:List UInt8):Bool:=s.all jD&&decide (1<=s.length/\s.length<=12)
mutual
def iM:ah->Bool
 | .mk a l=>if a=[] then iY l else validAtom a&&decide (l.length=0)
def iY:List ah->Bool
 |[]=>true
 |x::xs=>iM x&&iY xs
end
mutual
def kS:ah->Nat
 | .mk a l=>if a=[] then nu l+1 else 0
def nu:List ah->Nat
 |[]=>0
 |x::xs=>max (kS x) (nu xs)
end
mutual
def jT:ah->Nat
 | .mk _ l=>l8 l+1
def l8:List ah->Nat
 |[]=>0
 |x::xs=>jT x+l8 xs
end
theorem zn(x:ah):iM x=if x.aQ=[] then iY x.aj else validAtom x.aQ&&decide (x.aj.length=0):=by cases x;rw[iM];rfl
theorem LA(x:ah):kS x=if x.aQ=[] then nu x.aj+1 else 0:=by cases x;rw[kS];rfl
theorem O8(x:ah):jT x=l8 x.aj+1:=by cases x;rw[jT];rfl
theorem Jo:∀{l:List ah},(l.any fun t=> !iM t)= !iY l
 |[]=>rfl
 |t::ts=>by rw[List.any_cons,Jo (l:=ts),iY];simp
theorem yw:∀{l:List ah},iY l=true<->∀t∈l,iM t=true
 |[]=>by simp[iY]
 |t::ts=>by simp[iY,yw (l:=ts)]
mutual
theorem Ar:∀x:ah,kS x<=jT x
 | .mk a l=>by
   have:=Ea l;rw[kS,jT];split<;>omega
theorem Ea:∀l:List ah,nu l<=l8 l
 |[]=>by simp[nu]
 |x::xs=>by
  have h1:=Ar x;have h2:=Ea xs;rw[nu,l8];omega
end
mutual
theorem O9:∀x:ah,jT x<=x.sz+1
 | .mk a l=>by
   have:=LB l;rw[gY,jT,jC];simp only[ah.aQ,ah.aj];omega
theorem LB:∀l:List ah,l8 l<=l.length+dG l
 |[]=>by simp[l8]
 |x::xs=>by
  have h1:=O9 x;have h2:=LB xs;rw[l8,dG,List.length_cons];omega
end
def iK(x:ah):Bool:=iM x&&decide (kS x<=14/\jT x<=900)
mutual
theorem Pb:∀x:ah,iM x=true->x.sz+1<=13*jT x
 | .mk a l=>fun h=>by
   rw[iM] at h;rw[gY,jT,jC];simp only[ah.aQ,ah.aj];split at h
   ·rename_i ha;have:=LC l h;subst ha;simp only[List.length_nil];omega
   ·rw[Bool.and_eq_true,decide_eq_true_eq] at h;have h1:=h.1;unfold validAtom at h1;rw[Bool.and_eq_true,decide_eq_true_eq] at h1;have:l=[]:=List.eq_nil_of_length_eq_zero h.2;subst this;simp[dG];omega
theorem LC:∀l:List ah,iY l=true->l.length+dG l<=13*l8 l
 |[],_=>by simp[dG]
 |x::xs,h=>by
  rw[iY,Bool.and_eq_true] at h;have h1:=Pb x h.1;have h2:=LC xs h.2;rw[dG,l8,List.length_cons];omega
end
theorem LD{x:ah}(h:iK x=true):x.sz<=11700:=by
 unfold iK at h;rw[Bool.and_eq_true,decide_eq_true_eq] at h;have:=Pb x h.1;omega
def Bg(x:ah):ah:=if iK x=true then x else eH
def uU:Bool->ah->ah
 |true,x=>Bg x
 |false,_=>eH
theorem afA(x:ah):(Bg x).sz<=11700:=by
 unfold Bg;split
 ·rename_i h;exact LD h
 ·rw[gY];simp[eH,ah.aQ,ah.aj,bC]
theorem yF(b:Bool)(x:ah):(uU b x).sz<=11700:=by
 cases b with
 |true=>exact afA x
 |false=>rw[uU,gY];simp[eH,ah.aQ,ah.aj,bC]
mutual
def oV:D->Nat
 | .sl es=>nZ es+1
 | .ol _ _=>0
 | .b _=>0
 | .i _ _=>0
 | .s _=>0
 | .o _=>0
def p9:List D->Nat
 |[]=>0
 |d::ds=>oV d+p9 ds
def nZ:List (List D)->Nat
 |[]=>0
 |r::rs=>p9 r+nZ rs
end
mutual
def lJ:D->Nat->D
 | .sl es,n=>.ol n (eP es (n+1))
 | .ol m es,_=>.ol m es
 | .b x,_=>.b x
 | .i k x,_=>.i k x
 | .s l,_=>.s l
 | .o v,_=>.o v
def dS:List D->Nat->List D
 |[],_=>[]
 |d::ds,n=>lJ d n::dS ds (n+oV d)
def eP:List (List D)->Nat->List (List D)
 |[],_=>[]
 |r::rs,n=>dS r n::eP rs (n+p9 r)
end
mutual
def mW:D->Bool
 | .sl es=>iU es
 | .ol _ _=>false
 | .b _=>true
 | .i _ _=>true
 | .s _=>true
 | .o _=>false
def iG:List D->Bool
 |[]=>true
 |d::ds=>mW d&&iG ds
def iU:List (List D)->Bool
 |[]=>true
 |r::rs=>iG r&&iU rs
end
theorem F3:∀a b n,dS (a++b) n=dS a n++dS b (n+p9 a)
 |[],b,n=>by simp[dS,p9]
 |d::ds,b,n=>by rw[List.cons_append,dS,dS,F3 ds b,p9,Nat.add_assoc];rfl
theorem oW:∀a b n,eP (a++b) n=eP a n++eP b (n+nZ a)
 |[],b,n=>by simp[eP,nZ]
 |d::ds,b,n=>by rw[List.cons_append,eP,eP,oW ds b,nZ,Nat.add_assoc];rfl
theorem iP:∀r n,(dS r n).length=r.length
 |[],_=>rfl
 |d::ds,n=>by rw[dS,List.length_cons,iP ds,List.length_cons]
theorem kT:∀rs n,(eP rs n).length=rs.length
 |[],_=>rfl
 |r::rs,n=>by rw[eP,List.length_cons,kT rs,List.length_cons]
theorem Ci{z:Nat}:∀{rs:List (List D)}{n:Nat},(∀r∈rs,r.length=z)->∀r∈eP rs n,r.length=z
 |[],_,_,r,h=>by rw[eP] at h;cases h
 |a::rs,n,ha,r,h=>by
  rw[eP] at h;rcases List.mem_cons.1 h with e|h
  ·rw[e,iP];exact ha a (by simp)
  ·exact Ci (fun r hr=>ha r (by simp[hr])) r h
theorem gB:∀a b,iG (a++b)=(iG a&&iG b)
 |[],b=>by simp[iG]
 |d::ds,b=>by rw[List.cons_append,iG,iG,gB ds b,Bool.and_assoc]
theorem j4{α:Type}{f:α->List D}:∀{xs:List α},(∀x∈xs,iG (f x)=true)->iU (xs.map f)=true
 |[],_=>rfl
 |x::xs,h=>by
  rw[List.map_cons,iU,h x (by simp),j4 fun y hy=>h y (by simp[hy])];rfl
section
variable {P:Program} {w:World} {σ σ':Nat->Nat} {S:Store} {β:Hs} {N:Nat} {s:St}
mutual
theorem afB:∀(d:D)(n:Nat)(v:Value),bU w σ (lJ d n) v->bU w σ d v
 | .sl es,n,v,h=>by
   rw[lJ] at h;have hl:=kT es (n+1);have hrec:=Vb es (n+1);generalize eP es (n+1)=q at h hl hrec
   cases h with
   |oh n a cap=>
    have:es=[]:=List.eq_nil_of_length_eq_zero (by simpa using hl.symm);subst this;exact .nil a cap
   |ol n b off cap aN q vals c t hcap hlen hb hσ hfit hc hv hx=>
    obtain⟨r1,r2⟩:=hrec vals hv;rw[hl] at hcap hfit hc ⊢;refine .sl b off cap aN es vals c t (0,0) hcap (fun e he=> ?_) hb (by omega) hc r2;obtain⟨e',h1,h2⟩:=r1 e he;rw[<-h2];exact hlen e' h1
 | .ol m es,n,v,h=>h
 | .b x,n,v,h=>h
 | .i k x,n,v,h=>h
 | .s l,n,v,h=>h
 | .o u,n,v,h=>h
theorem afC:∀(r:List D)(n:Nat)(vals:Nat->Value),(∀j d,(dS r n)[j]? =some d->bU w σ d (vals j))->∀(j:Nat) d,r[j]? =some d->bU w σ d (vals j)
 |[],n,vals,h,j,d,hd=>by simp at hd
 |a::r,n,vals,h,j,d,hd=>by
  cases j with
  |zero=>
   simp at hd;subst hd;exact afB a n _ (h 0 _ rfl)
  |succ j=>exact afC r (n+oV a) (fun i=>vals (i+1)) (fun i d hi=>h (i+1) d (by rw[dS];exact hi)) j d hd
theorem Vb:∀(rs:List (List D))(n:Nat)(vals:Nat->Value),(∀j d,(eP rs n).flatten[j]? =some d->bU w σ d (vals j))->
 (∀e∈rs,∃e'∈eP rs n,e'.length=e.length)/\∀(j:Nat) d,rs.flatten[j]? =some d->bU w σ d (vals j)
 |[],n,vals,h=>⟨fun e he=>(by cases he),fun j d hd=>(by simp at hd)⟩
 |r::rs,n,vals,h=>by
  rw[eP,List.flatten_cons] at h;have h1:=afC r n vals fun j d hd=>h j d (by rw[List.getElem?_append_left (List.getElem?_eq_some_iff.1 hd).1];exact hd);obtain⟨h2,h3⟩:=Vb rs (n+p9 r) (fun i=>vals (r.length+i)) fun j d hd=>h (r.length+j) d (by rw[List.getElem?_append_right (by rw[iP];omega),iP,Nat.add_sub_cancel_left];exact hd);refine⟨fun e he=> ?_,fun j d hd=> ?_⟩
  ·rcases List.mem_cons.1 he with e1|he
   ·subst e1;exact⟨_,by rw[eP];exact List.mem_cons_self ..,iP _ _⟩
   ·obtain⟨e',q1,q2⟩:=h2 e he;exact⟨e',by rw[eP];exact List.mem_cons_of_mem _ q1,q2⟩
  ·rw[List.flatten_cons] at hd;by_cases hj:j<r.length
   ·rw[List.getElem?_append_left hj] at hd;exact h1 j d hd
   ·rw[List.getElem?_append_right (by omega)] at hd;have:=h3 (j-r.length) d hd
    rwa [show r.length+(j-r.length)=j by omega] at this
end
theorem vL{r:List D}{n:Nat}:Less (.agg ((dS r n).map .d)) (.agg (r.map .d)):=by
 rintro w σ S β v ⟨a,ha,hl,hc⟩;rw[List.length_map,iP] at hl;refine⟨a,ha,by rw[List.length_map];exact hl,?_⟩
 have key:∀(r:List D)(n:Nat)(vs:List Value),(∀(j:Nat)(x:C),((dS r n).map C.d)[j]? =some x->∃v:Value,vs[j]? =some v/\fK w σ S β x v/\v.oneCell'=true)->
  ∀(j:Nat)(x:C),(r.map C.d)[j]? =some x->∃v:Value,vs[j]? =some v/\fK w σ S β x v/\v.oneCell'=true:=by
  intro r
  induction r with
  |nil=>intro n vs h j x hx;simp at hx
  |cons d ds ih=>
   intro n vs h j x hx
   cases j with
   |zero=>
    simp at hx;subst hx;obtain⟨v,h1,h2,h3⟩:=h 0 (.d (lJ d n)) rfl;exact⟨v,h1,afB d n v h2,h3⟩
   |succ j=>
    have:=ih (n+oV d) vs.tail (fun i y hy=>by
     obtain⟨v,h1,h2⟩:=h (i+1) y (by rw[dS,List.map_cons];exact hy);refine⟨v,?_,h2⟩
     cases vs with
     |nil=>simp at h1
     |cons a b=>exact h1) j x hx
    obtain⟨v,h1,h2⟩:=this;refine⟨v,?_,h2⟩
    cases vs with
    |nil=>simp at h1
    |cons a b=>exact h1
 exact key r n _ hc
theorem LG{r:List D}{n:Nat}{w:World}{σ:Nat->Nat}{S:Store}{β:Hs}{vs:List Value}(h:d9 w σ S β ((dS r n).map .d) vs):d9 w σ S β (r.map .d) vs:=by
 obtain⟨a,ha,hc⟩:=vL w σ S β (.agg vs.toArray) ⟨vs.toArray,rfl,by simpa using h⟩;cases ha;simpa using hc
inductive qm:List V->List V->Prop
 |nil:qm [] []
 |cons {x y:V} {xs ys:List V}:Less x y->qm xs ys->qm (x::xs) (y::ys)
theorem qm.length:∀{xs ys:List V},qm xs ys->xs.length=ys.length
 |_,_,.nil=>rfl
 |_,_,.cons _ h=>by rw[List.length_cons,List.length_cons,qm.length h]
theorem qm.at:∀{xs ys:List V},qm xs ys->∀(j:Nat)(x y:V),xs[j]? =some x->ys[j]? =some y->Less x y
 |_,_,.nil,j,x,y,h,_=>by simp at h
 |_,_,.cons a h,0,x,y,h1,h2=>by simp at h1 h2;subst h1;subst h2;exact a
 |_,_,.cons a h,j+1,x,y,h1,h2=>qm.at h j x y (by simpa using h1) (by simpa using h2)
theorem aG.args{f:FuncId}{args args':List V}{r:V}(h:aG P f args' r)(hl:qm args args'):aG P f args r:=fun S=>(h S).weaken hl.length fun j x y hx hy w σ β v hr=>hl.at j x y hx hy w σ S β v hr
theorem sw{dr:Option Nat}{f:FuncId}{args args':List V}{dst:Option Nat}{K:St->Prop}{r:V}(h:aG P f args' r)(hl:qm (args.map V.qO) args')(hK:K (s.put dst r)):lU P dr f args s dst K:=au (h.args hl) hK
def aby(row:Bool)(j n:Nat)(es:List (List D))(tm:List (Nat×V)):List (Nat×V):=tm.map fun x=>(x.1,x.2.jM (C.lab row j n es))
theorem Yq{row:Bool}{j n:Nat}{es:List (List D)}{tm:List (Nat×V)}{t:Nat}:look (aby row j n es tm) t=(look tm t).jM (C.lab row j n es):=BS (f:=V.jM (C.lab row j n es)) rfl tm t
def Vd(j n:Nat)(tm:List (Nat×V))(own:List Obj)(Ω:Store):Option Obj->St
 |some (.dL _ es)=>⟨aby true j n es tm,(own.map (Obj.jM (C.lab true j n es))).set j .dead::Ω⟩
 |some (.eD m _ es)=>⟨aby false j m es tm,(own.map (Obj.jM (C.lab false j m es))).set j .dead::Ω⟩
 |_=>⟨tm,own::Ω⟩
def Na(j n:Nat)(s:St):St:=
 match s.st with
 |own::Ω=>Vd j n s.tm own Ω (own[j]?)
 |[]=>s
def Jp:Nat->Nat->St->St
 |0,_,s=>s
 |k+1,n,s=>Jp k n (Na k n s)
def Bh(n:Nat)(s:St):St:=
 match s.st with
 |own::_=>Jp own.length n s
 |[]=>s
theorem Rl(j n:Nat)(s:St):fV N s (Na j n s):=by
 obtain⟨tm,st⟩:=s
 cases st with
 |nil=>exact fV.refl _ _
 |cons own Ω=>
  show fV N ⟨tm,own::Ω⟩ (Vd j n tm own Ω (own[j]?))
  cases ho:own[j]? with
  |none=>exact fV.refl _ _
  |some o=>
   cases o with
   |dL z es=>exact fun a w σ β hR=>Sd j n z es true ho hR
   |eD m z es=>exact fun a w σ β hR=>Sd j m z es false ho hR
   |_=>exact fV.refl _ _
theorem F4:∀(k n:Nat)(s:St),fV N s (Jp k n s)
 |0,n,s=>fV.refl _ _
 |k+1,n,s=>(Rl k n s).trans (F4 k n _)
theorem Eb(n:Nat)(s:St):fV N s (Bh n s):=by
 unfold Bh;split
 ·exact F4 _ _ _
 ·exact fV.refl _ _
theorem abz{j n:Nat}{tm:List (Nat×V)}{own:List Obj}{Ω:Store}:Na j n ⟨tm,own::Ω⟩=Vd j n tm own Ω (own[j]?):=rfl
theorem Yr{n:Nat}{tm:List (Nat×V)}{own:List Obj}{Ω:Store}:Bh n ⟨tm,own::Ω⟩=Jp own.length n ⟨tm,own::Ω⟩:=rfl
def Ve(P:Program)(n:Nat)(rs:List ResultVar)(post:V->Store->Prop)(e:Exit)(s:St):Prop:=Zy P rs post e (Bh n s)
theorem abA{n:Nat}{rs:List ResultVar}{post:V->Store->Prop}:Ve P n rs post .ret s=OC P rs post (Bh n s):=rfl
theorem Rm{n:Nat}{rs:List ResultVar}{post:V->Store->Prop}:Ve P n rs post .normal s=OC P rs post (Bh n s):=rfl
theorem mX(n:Nat){f:FuncId}{fn:Func}{c:Code}{args:List V}{post:V->Store->Prop}{rs:List ResultVar}(fB:P.follows .mixedOrders=true)(hf:P.funcs[f]? =some fn)(hN:fn.ntmps=N)
 (hb:fn.body=some c) (hn:(fn.name== "runtime.NumGoroutine")=false) (hr:fn.results.toList=rs) (hl:Nat.ble args.length N=true) (hok:codeOk N c=true)
 (h:CW P N c (Ve P n rs post) ⟨kG (args.map (V.up 1)) 0,[.seed n]::S⟩):bD P f args S post:=by
 subst hN;subst hr;exact oo hf hb hn (Nat.le_of_ble_eq_true hl) (Kl n (yU (Eb n) (jB fB c _ _ hok h)))
theorem abB{row:Bool}{j n l i:Nat}{es es':List (List D)}:C.lab row j n es (.bG (1+l,i) es')=.bG (1+l,i) es':=by rw[Nat.add_comm];rfl
theorem abC{row:Bool}{j n i:Nat}{es es':List (List D)}:C.lab row j n es (.bG (0,i) es')=if i=j/\row=false/\es'.length=es.length then .d (.ol n es) else .bG (0,i) es':=rfl
theorem abD{row:Bool}{j n l i:Nat}{es:List (List D)}:C.lab row j n es (.gK (1+l,i))=.gK (1+l,i):=by rw[Nat.add_comm];rfl
theorem abE{row:Bool}{j n i:Nat}{es:List (List D)}:C.lab row j n es (.gK (0,i))=if i=j/\row=true then .d (.ol n es) else .gK (0,i):=rfl
theorem ahi{row:Bool}{j n:Nat}{es:List (List D)}{x:D}:C.lab row j n es (.d x)=.d x:=rfl
theorem ad5{row:Bool}{j n:Nat}{es:List (List D)}:C.lab row j n es .any=.any:=rfl
theorem ad6{row:Bool}{j n:Nat}{es es':List (List D)}:C.lab row j n es (.bA es')=.bA es':=rfl
theorem ad7{row:Bool}{j n m:Nat}{es es':List (List D)}:C.lab row j n es (.jm m es')=.jm m es':=rfl
theorem ad8{row:Bool}{j n off:Nat}{es:List (List D)}{k:Key}:C.lab row j n es (.ptr k off)=.ptr k off:=rfl
theorem afD{row:Bool}{j n f:Nat}{es:List (List D)}{caps:List (Key×Nat)}:C.lab row j n es (.fn f caps)=.fn f caps:=rfl
theorem abF{row:Bool}{j n:Nat}{es:List (List D)}{cs:List D}:C.lab row j n es (.kH cs)=.kH cs:=rfl
theorem vM{ι:Type}{ts:List Nat}{f:ι->List V}{g:ι->Store}{p:ι->Prop}{μ:ι->Nat}{i:ι}{tm:List (Nat×V)}{own:List Obj}{Ω:Store}{m:Nat}(m' n:Nat)(hnd:ts.Nodup)(j:ι)(h1:μ j<μ i)(h2:ts.map (look tm)=f j)(h3:(Obj.seed m'::own.take n)::Ω=g j)
 (hr:kg (n+1) (iA ts (f j))=true)(ho:(own.take n).all (Obj.refs (n+1))=true)(h4:p j):Inv N ts f g p μ i ⟨tm,(.seed m::own)::Ω⟩:=by
 refine⟨j,⟨iA ts (f j),(.seed m'::own.take n)::Ω⟩,h1,?_,?_,h3,h4⟩
 ·have hg:fV N ⟨tm,(.seed m::own)::Ω⟩ ⟨iA ts (f j),(.seed m::own)::Ω⟩:=by
   rw[<-h2];exact Gp fun t=>vI _ ts t
  refine hg.trans ((Iu (n+1) hr ?_).trans (Dy m'));rw[List.take_succ_cons,List.all_cons,ho];rfl
 ·exact yY ts (f j) hnd (by rw[<-h2];simp)
end
attribute [go_sem ↓] abA Rm Yr
attribute [go_sem] Jp abz Vd Yq V.jM Obj.jM abB abC abD abE ahi ad5 ad6 ad7 ad8 afD abF
section
variable {P:Program} {N:Nat} {S:Store} {s:St} {tm:List (Nat×V)}
end
theorem Vf{P:Program}{N:Nat}(n:Nat){f:FuncId}{fn:Func}{c:Code}{args:List V}{bg:List Obj}{Ω:Store}{post:V->Store->Prop}{rs:List ResultVar}(fB:P.follows .mixedOrders=true)(hf:P.funcs[f]? =some fn)(hN:fn.ntmps=N)
 (hb:fn.body=some c) (hn:(fn.name== "runtime.NumGoroutine")=false) (hr:fn.results.toList=rs) (hl:Nat.ble args.length N=true) (hok:codeOk N c=true)
 (h:CW P N c (OM P rs post) ⟨kG (args.map (V.up 1)) 0,[.seed n]::bg::Ω⟩):bD P f args (bg::Ω) post:=by
 subst hN;subst hr;exact Li hf hb hn (Nat.le_of_ble_eq_true hl) (Kl n (jB fB c _ _ hok h))
theorem abG{P:Program}{N:Nat}{c:Code}{Q:Exit->St->Prop}{tm:List (Nat×V)}{Ω:Store}(n k:Nat)(h:AW P N c Q ⟨tm,[.seed n,.seed k]::Ω⟩):AW P N c Q ⟨tm,[]::Ω⟩:=by
 refine Kl n (jX h fun a w σ β hR=> ?_);obtain⟨bo,bΩ,rfl,hlen⟩:=frames hR;obtain⟨hS',hk,hst⟩:=hR.S.push (o:=.seed k) (h:=undef) (Grow.refl hR.S.live) hlen trivial (fun b hb=>by cases hb);exact⟨σ,_,⟨hR.size,hR.defers,hS',fun u=>(hR.T u).mono (dM.refl _ _) hk⟩,hst,Keep.refl _ _⟩
section
variable {P:Program} {N:Nat} {S:Store}
theorem yx(n k:Nat){f:FuncId}{fn:Func}{c:Code}{args:List V}{post:V->Store->Prop}{rs:List ResultVar}(fB:P.follows .mixedOrders=true)(hf:P.funcs[f]? =some fn)(hN:fn.ntmps=N)
 (hb:fn.body=some c) (hn:(fn.name== "runtime.NumGoroutine")=false) (hr:fn.results.toList=rs) (hl:Nat.ble args.length N=true) (hok:codeOk N c=true)
 (h:CW P N c (Ve P n rs post) ⟨kG (args.map (V.up 1)) 0,[.seed n,.seed k]::S⟩):bD P f args S post:=by
 subst hN;subst hr;exact oo hf hb hn (Nat.le_of_ble_eq_true hl) (abG n k (yU (Eb n) (jB fB c _ _ hok h)))
end
section
variable {P:Program} {w w':World} {σ σ':Nat->Nat} {S:Store} {β:Hs}
def oZ(w:World)(σ:Nat->Nat)(lo hi b:Nat):Prop:=∃c t fz m,w.heap[b]? =some (.cells c t fz)/\σ b=c.size+1+m/\lo<=m/\m<hi
theorem oZ.mono{lo hi lo' hi' b:Nat}(h:oZ w σ lo hi b)(h1:lo'<=lo)(h2:hi<=hi'):oZ w σ lo' hi' b:=by
 obtain⟨c,t,fz,m,a1,a2,a3,a4⟩:=h;exact⟨c,t,fz,m,a1,a2,by omega,by omega⟩
theorem oZ.apart{lo hi lo' hi' b:Nat}(h:oZ w σ lo hi b)(h':oZ w σ lo' hi' b)(ho:hi<=lo'):False:=by
 obtain⟨c,t,fz,m,a1,a2,a3,a4⟩:=h;obtain⟨c',t',ND,m',b1,b2,b3,b4⟩:=h';rw[a1] at b1;cases b1;omega
abbrev Kids:=List (List (Option Value))
def lu(rows:Kids)(i o:Nat):Option Value:=((rows[i]?).bind fun r=>r[o]?).bind id
def acN(rows:Kids):Array Value:=(rows.map fun r=>Value.tuple (r.map fun u=>u.getD (.bool false)).toArray).toArray
def mkT(v:Value)(rows:Kids):Value:=.tuple #[v,.tuple (acN rows)]
theorem Sr{v:Value}{rows:Kids}:hdr (mkT v rows)=some v:=rfl
def IsT(v:Value):Prop:=∃a,v=.tuple a
theorem KG{v:Value}{rows:Kids}(h:∀i o u,lu rows i o=some u->IsT u)(i o:Nat):kid (mkT v rows) i o=lu rows i o:=by
 have h':=h i o
 unfold kid mkT acN lu at *
 simp only[List.getElem?_toArray,List.getElem?_cons_succ,List.getElem?_cons_zero,List.getElem?_map]
 cases hr:rows[i]? with
 |none=>rfl
 |some r=>
  rw[hr] at h';simp only[Option.map_some,List.getElem?_toArray,List.getElem?_map]
  cases hu:r[o]? with
  |none=>simp[hu]
  |some u=>
   simp only[Option.bind_some,hu,id] at h'
   cases u with
   |none=>simp[hu]
   |some u=>
    obtain⟨a,rfl⟩:=h' u rfl;simp[hu]
def Nb(w:World)(d:D)(v:Value)(u:Option Value):Prop:=
 match d with
 | .sl es=>∃T,u=some T/\IsT T/\hdr T=some v/\nO w es T
 |d=>u=none/\SD d v
theorem GH{z:Nat}:∀{rs:List (List D)}{n:Nat},(∀r∈eP rs n,r.length=z)->∀r∈rs,r.length=z
 |[],_,_,r,h=>by cases h
 |a::rs,n,ha,r,h=>by
  rw[eP] at ha;rcases List.mem_cons.1 h with e|h
  ·subst e;rw[<-iP r n];exact ha _ (by simp)
  ·exact GH (n:=n+p9 a) (fun r hr=>ha r (by simp[hr])) r h
structure aiN(w:World)(σ:Nat->Nat)(r:List D)(n m:Nat)(vals:Nat->Value)(us:List (Option Value)):Prop where
 len:us.length=r.length
 cell:∀(j:Nat)(d:D),r[j]? =some d->∃u,us[j]? =some u/\Nb w d (vals j) u
 own:∀(j:Nat)(u:Value),us[j]? =some (some u)->∀b,kI u b->oZ w σ n m b
 apart:∀(j j':Nat)(u u':Value)(b:Nat),j≠j'->us[j]? =some (some u)->us[j']? =some (some u')->kI u b->kI u' b->False
structure ahj(w:World)(σ:Nat->Nat)(z:Nat)(rs:List (List D))(n m:Nat)(vals:Nat->Value)(U:Kids):Prop where
 cell:∀(i o:Nat)(d:D),cellAt rs i o=some d->∃u,((U[i]?).bind fun r=>r[o]?)=some u/\Nb w d (vals (i*z+o)) u
 kid:∀(i o:Nat)(u:Value),lu U i o=some u->∃es,cellAt rs i o=some (.sl es)
 own:∀(i o:Nat)(u:Value),lu U i o=some u->∀b,kI u b->oZ w σ n m b
 apart:∀(i o i' o':Nat)(u u':Value)(b:Nat),(i,o)≠(i',o')->lu U i o=some u->lu U i' o'=some u'->kI u b->kI u' b->False
theorem uV{us:List (Option Value)}{U:Kids}{o:Nat}{u:Value}:lu (us::U) 0 o=some u<->us[o]? =some (some u):=by
 show(us[o]?).bind id=some u<->_
 cases us[o]? with
 |none=>simp
 |some x=>simp
mutual
theorem ahk:∀(d:D)(n:Nat)(v:Value),mW d=true->bU w σ (lJ d n) v->∃u,Nb w d v u/\∀T,u=some T->∀b,kI T b->oZ w σ n (n+oV d) b
 | .sl es,n,v,hp,h=>by
   rw[lJ] at h;have hl:=kT es (n+1);have hrec:=Yt es (n+1);have hrow:=fun z=>GH (z:=z) (rs:=es) (n:=n+1);generalize eP es (n+1)=q at h hl hrec hrow
   have hempty:∀a cap,es=[]->v=.slice a 0 cap->∃u,Nb w (.sl es) v u/\∀T,u=some T->∀b,kI T b->oZ w σ n (n+oV (.sl es)) b:=by
    rintro a cap rfl rfl
    have hk:∀i o,kid (mkT (.slice a 0 cap) []) i o=none:=fun i o=>by rw[KG (fun i o u h=>by simp[lu] at h)];simp[lu]
    refine⟨some (mkT (.slice a 0 cap) []),⟨_,rfl,⟨_,rfl⟩,rfl,.nil a cap _ rfl hk⟩,fun T hT b hb=> ?_⟩;cases hT;exfalso
    cases hb with
    |here h1 h2=>rw[Sr] at h1;cases h1;omega
    |kid h1 h2=>rw[hk] at h1;cases h1
   cases h with
   |oh n a cap=>exact hempty a cap (List.eq_nil_of_length_eq_zero (by simpa using hl.symm)) rfl
   |ol n b off cap z q vals c t hcap hlen hb hσ hfit hc hv hx=>
    by_cases hne:es=[]
    ·subst hne
     have hq0:q.length=0:=by simpa using hl
     exact hempty _ _ rfl (by rw[hq0])
    rw[hl] at hcap hfit hc ⊢;obtain⟨U,hU⟩:=hrec z vals (hrow z hlen) (by simpa [mW] using hp) hv;have hrl:=hrow z hlen
    have hT:∀i o u,lu U i o=some u->IsT u:=fun i o u hu=>by
     obtain⟨es',he⟩:=hU.kid i o u hu;obtain⟨u',h1,h2⟩:=hU.cell i o _ he;obtain⟨T,h3,h4,_⟩:=h2;unfold lu at hu;rw[h1,h3] at hu;cases hu;exact h4
    have qH:∀i o,kid (mkT (.slice (some ⟨b,off,none⟩) es.length cap) U) i o=lu U i o:=KG hT
    have hcell:∀i o es',cellAt es i o=some (.sl es')->∃T,lu U i o=some T/\hdr T=some (vals (i*z+o))/\nO w es' T:=fun i o es' he=>by
     obtain⟨u',h1,T,h3,h4,h5,h6⟩:=hU.cell i o _ he;refine⟨T,?_,h5,h6⟩;unfold lu;rw[h1,h3];rfl
    have hself:∀x,oZ w σ (n+1) (n+1+nZ es) x->x≠b:=by
     rintro x ⟨c',t',ND,m,a1,a2,a3,a4⟩ rfl;rw[hb] at a1;cases a1;omega
    refine⟨some (mkT (.slice (some ⟨b,off,none⟩) es.length cap) U),⟨_,rfl,⟨_,rfl⟩,rfl,?_⟩,fun T hT' x hx=> ?_⟩
    ·refine .mk b off cap z es _ c t (fun i o=>vals (i*z+o)) (fun i o=>(lu U i o).getD undef) rfl hne hcap hrl hb hfit (fun i o d hd=> ?_) (fun i o d hd=> ?_) (fun i o es' he=> ?_) (fun i o es' he=> ?_) (fun i o u hu hb'=> ?_) (fun i o i' o' u u' x hio hu hu' h1 h2=> ?_) (fun i o u hu=> ?_)
     ·obtain⟨hi,ho⟩:=vE hd;rw[hrl _ (List.getElem_mem hi)] at ho;refine hc _ ?_;have:(i+1)*z<=es.length*z:=Nat.mul_le_mul_right _ hi;rw[Nat.add_mul,Nat.one_mul] at this;omega
     ·obtain⟨u,h1,h2⟩:=hU.cell i o d hd
      cases d<;>first|exact .inl ⟨_,rfl⟩|exact .inr h2.2
     ·obtain⟨T,h1,h2,h3⟩:=hcell i o es' he;rw[qH,h1];exact⟨rfl,h2⟩
     ·obtain⟨T,h1,h2,h3⟩:=hcell i o es' he;rw[h1];exact h3
     ·rw[qH] at hu;exact hself b (hU.own i o u hu b hb') rfl
     ·rw[qH] at hu hu';exact hU.apart i o i' o' u u' x hio hu hu' h1 h2
     ·rw[qH] at hu;exact hU.kid i o u hu
    ·cases hT'
     cases hx with
     |here h1 h2=>rw[Sr] at h1;cases h1;exact⟨c,t,(0,0),n,hb,hσ,Nat.le_refl _,by rw[oV];omega⟩
     |kid h1 h2=>
      rw[qH] at h1;exact(hU.own _ _ _ h1 _ h2).mono (by omega) (by rw[oV];omega)
 | .ol m es,n,v,hp,h=>by simp[mW] at hp
 | .b x,n,v,hp,h=>by rw[lJ] at h;cases h;exact⟨none,⟨rfl,rfl⟩,fun T h=>by cases h⟩
 | .i k x,n,v,hp,h=>by rw[lJ] at h;cases h;exact⟨none,⟨rfl,rfl⟩,fun T h=>by cases h⟩
 | .s l,n,v,hp,h=>by rw[lJ] at h;cases h;exact⟨none,⟨rfl,rfl⟩,fun T h=>by cases h⟩
 | .o u,n,v,hp,h=>by simp[mW] at hp
theorem Vg:∀(r:List D)(n:Nat)(vals:Nat->Value),iG r=true->(∀(j:Nat)(d:D),(dS r n)[j]? =some d->bU w σ d (vals j))->∃us,aiN w σ r n (n+p9 r) vals us
 |[],n,vals,hp,h=>⟨[],rfl,fun j d h=>by simp at h,fun j u h=>by simp at h,fun j j' u u' b _ h=>by simp at h⟩
 |d::r,n,vals,hp,h=>by
  rw[iG,Bool.and_eq_true] at hp;rw[dS] at h;obtain⟨u,h1,h2⟩:=ahk d n (vals 0) hp.1 (h 0 _ rfl);obtain⟨us,vv⟩:=Vg r (n+oV d) (fun j=>vals (j+1)) hp.2 fun j x hx=>h (j+1) x hx;rw[p9];have hown:∀(j:Nat)(T:Value),us[j]? =some (some T)->∀b,kI T b->oZ w σ (n+oV d) (n+oV d+p9 r) b:=vv.own;refine⟨u::us,by rw[List.length_cons,List.length_cons,vv.len],fun j x hx=> ?_,fun j T hT b hb=> ?_,fun j j' T T' b hj hT hT' hb hb'=> ?_⟩
  ·cases j with
   |zero=>simp at hx;subst hx;exact⟨u,rfl,h1⟩
   |succ j=>exact vv.cell j x hx
  ·cases j with
   |zero=>simp at hT;exact(h2 T hT b hb).mono (Nat.le_refl _) (by omega)
   |succ j=>exact(hown j T hT b hb).mono (by omega) (by omega)
  ·cases j with
   |zero=>
    cases j' with
    |zero=>exact hj rfl
    |succ j'=>simp at hT;exact(h2 T hT b hb).apart (hown j' T' hT' b hb') (Nat.le_refl _)
   |succ j=>
    cases j' with
    |zero=>simp at hT';exact(h2 T' hT' b hb').apart (hown j T hT b hb) (Nat.le_refl _)
    |succ j'=>exact vv.apart j j' T T' b (by omega) hT hT' hb hb'
theorem Yt:∀(rs:List (List D))(n z:Nat)(vals:Nat->Value),(∀r∈rs,r.length=z)->iU rs=true->(∀(j:Nat)(d:D),(eP rs n).flatten[j]? =some d->bU w σ d (vals j))->∃U,ahj w σ z rs n (n+nZ rs) vals U
 |[],n,z,vals,hz,hp,h=>⟨[],fun i o d h=>by simp[cellAt] at h,fun i o u h=>by simp[lu] at h,fun i o u h=>by simp[lu] at h,fun i o i' o' u u' b _ h=>by simp[lu] at h⟩
 |r::rs,n,z,vals,hz,hp,h=>by
  rw[iU,Bool.and_eq_true] at hp;rw[eP,List.flatten_cons] at h;have hrz:r.length=z:=hz r (by simp);obtain⟨us,vv⟩:=Vg r n vals hp.1 fun j d hd=>h j d (by rw[List.getElem?_append_left (List.getElem?_eq_some_iff.1 hd).1];exact hd)
  obtain⟨U,hU⟩:=Yt rs (n+p9 r) z (fun j=>vals (z+j)) (fun r hr=>hz r (by simp[hr])) hp.2 fun j d hd=>h (z+j) d (by
   rw[List.getElem?_append_right (by rw[iP];omega),iP,hrz,Nat.add_sub_cancel_left];exact hd)
  rw[nZ];have hown:∀(i o:Nat)(T:Value),lu U i o=some T->∀b,kI T b->oZ w σ (n+p9 r) (n+p9 r+nZ rs) b:=hU.own;refine⟨us::U,fun i o d hd=> ?_,fun i o u hu=> ?_,fun i o T hT b hb=> ?_,fun i o i' o' T T' b hio hT hT' hb hb'=> ?_⟩
  ·cases i with
   |zero=>
    obtain⟨u,h1,h2⟩:=vv.cell o d hd;exact⟨u,h1,by rw[Nat.zero_mul,Nat.zero_add];exact h2⟩
   |succ i=>
    obtain⟨u,h1,h2⟩:=hU.cell i o d hd;exact⟨u,h1,by rw[show(i+1)*z+o=z+(i*z+o) by rw[Nat.add_mul];omega];exact h2⟩
  ·cases i with
   |zero=>
    rw[uV] at hu
    have ho:o<r.length:=by rw[<-vv.len];exact(List.getElem?_eq_some_iff.1 hu).1
    obtain⟨u',h1,h2⟩:=vv.cell o r[o] (List.getElem?_eq_getElem ho);rw[hu] at h1;cases h1;have hc:cellAt (r::rs) 0 o=some r[o]:=List.getElem?_eq_getElem ho;rw[hc];generalize r[o]=d at h2
    cases d<;>first|exact⟨_,rfl⟩|(cases h2.1)
   |succ i=>exact hU.kid i o u hu
  ·cases i with
   |zero=>rw[uV] at hT;exact(vv.own o T hT b hb).mono (Nat.le_refl _) (by omega)
   |succ i=>exact(hown i o T hT b hb).mono (by omega) (by omega)
  ·cases i with
   |zero=>
    rw[uV] at hT
    cases i' with
    |zero=>rw[uV] at hT';exact vv.apart o o' T T' b (fun e=>hio (by rw[e])) hT hT' hb hb'
    |succ i'=>exact(vv.own o T hT b hb).apart (hown i' o' T' hT' b hb') (Nat.le_refl _)
   |succ i=>
    cases i' with
    |zero=>rw[uV] at hT';exact(vv.own o' T' hT' b hb').apart (hown i o T hT b hb) (Nat.le_refl _)
    |succ i'=>exact hU.apart i o i' o' T T' b (fun e=>hio (by cases e;rfl)) hT hT' hb hb'
end
end
section
variable {P:Program} {w w':World} {σ σ':Nat->Nat} {S:Store} {β:Hs}
def Jq:D->List (List D)
 | .sl es=>es
 |_=>[]
def acP(k:Key)(j:Nat):D->C
 | .sl _=>.xp k j []
 |d=>.d d
def GI(k:Key):Nat->List D->List C
 |_,[]=>[]
 |j,d::ds=>acP k j d::GI k (j+1) ds
theorem Au{k:Key}:∀(j:Nat)(r:List D),(GI k j r).length=r.length
 |_,[]=>rfl
 |j,d::ds=>by rw[GI,List.length_cons,Au,List.length_cons]
theorem Sv{k:Key}:∀(r:List D)(j i:Nat),(GI k j r)[i]? =(r[i]?).map (acP k (j+i))
 |[],j,i=>by simp[GI]
 |d::ds,j,0=>rfl
 |d::ds,j,i+1=>by
  rw[GI,List.getElem?_cons_succ,List.getElem?_cons_succ,Sv ds (j+1) i,show j+1+i=j+(i+1) by omega]
def Vh:C->C
 | .d x=>.d x
 | .bA es=>.d (.sl es)
 | .bG _ es=>.d (.sl es)
 | .jm n es=>.d (.ol n es)
 | .kH cs=>.kH cs
 |_=>.any
def Fg:V->V
 | .c x=>.c (Vh x)
 | .agg cs=>.agg (cs.map Vh)
 |_=>.any
theorem LH{c:C}{v:Value}(h:fK w σ S β c v)(S':Store)(β':Hs):fK w σ S' β' (Vh c) v:=by
 cases c with
 |d x=>exact h
 |bA es=>exact h.1
 |bG k es=>exact h.1
 |jm n es=>exact h.1
 |kH cs=>exact h
 |_=>trivial
theorem GJ{x:V}{v:Value}(h:bV w σ S β x v)(S':Store)(β':Hs):bV w σ S' β' (Fg x) v:=by
 cases x with
 |c x=>exact⟨LH h.1 _ _,h.2⟩
 |agg cs=>
  obtain⟨a,ha,hl,hc⟩:=h;refine⟨a,ha,by rw[List.length_map];exact hl,fun i x hx=> ?_⟩;rw[List.getElem?_map] at hx
  cases hi:cs[i]? with
  |none=>rw[hi] at hx;cases hx
  |some y=>
   rw[hi] at hx;cases hx;obtain⟨u,q1,q2,q3⟩:=hc i y hi;exact⟨u,q1,LH q2 _ _,q3⟩
 |_=>trivial
theorem Jr(hl:∀b,b<w.heap.size\/σ b=0)(hg:Af w σ):dH w σ [] [] where
 qI:=hg
 obj:=fun k o h=>by rw[mI] at h;cases h
 apart:=fun k k' o o' h h' b h1=>by rw[mI] at h1;cases h1
 shape:=⟨rfl,fun l fr h=>by simp at h⟩
 live:=hl
theorem Fh{β:Hs}{b:Nat}:¬Own [] β b:=fun⟨k,o,h,h1,_⟩=>by rw[mI] at h1;cases h1
def afF(mk:List C->V)(m:Nat):Prop:=∀w σ S β cs v,cs.length=m->bV w σ S β (mk cs) v->∃vs,d9 w σ S β cs vs/\∀w' σ' S' β' cs',cs'.length=m->d9 w' σ' S' β' cs' vs->bV w' σ' S' β' (mk cs') v
def qp:Value:=mkT (.slice none 0 0) []
theorem Ec(i o:Nat):kid qp i o=none:=by
 unfold qp;rw[KG (fun i o u h=>by simp[lu] at h)];simp[lu]
theorem uW{b:Nat}:¬kI qp b:=fun h=>by
 cases h with
 |here h1 h2=>cases h1
 |kid h1 h2=>rw[Ec] at h1;cases h1
theorem GK(σ:Nat->Nat):∀n:Nat,∃m,∀b,b<n->σ b<=m
 |0=>⟨0,fun b h=>by omega⟩
 |n+1=>by
  obtain⟨m,hm⟩:=GK σ n;refine⟨max m (σ n),fun b hb=> ?_⟩;by_cases e:b=n
  ·subst e;omega
  ·have:=hm b (by omega);omega
open Classical in
theorem bD.own{f:FuncId}{args:List V}{bg:List Obj}{Ω:Store}{mk:List C->V}{r:List D}(hm:afF mk r.length)(hp:iG r=true)
 (h:∀n,aG P f (args.map Fg) (mk ((dS r n).map .d))):
 bD P f args (bg::Ω) (fun r' S'=>r'=mk (GI (0,bg.length) 0 r)/\S'=(bg++[.xf (r.map Jq)])::Ω):=by
 refine⟨(h 0 []).1,fun w σ β vs hS hargs=> ?_⟩;obtain⟨n,hn⟩:=GK σ w.heap.size
 have Js:nI w σ [] [] (args.map Fg) vs:=by
  refine⟨by rw[List.length_map];exact hargs.1,fun j x hx=> ?_⟩;rw[List.getElem?_map] at hx
  cases ha:args[j]? with
  |none=>rw[ha] at hx;cases hx
  |some y=>
   rw[ha] at hx;cases hx;obtain⟨v,h1,h2⟩:=hargs.2 j y ha;exact⟨v,h1,GJ h2 _ _⟩
 refine((h n []).2 w σ [] vs (Jr hS.live hS.qI) Js).mono fun e w' ⟨v,r',S',σ',β',he,hS',hk,hst,hv,hr',hS2⟩=> ?_;subst hr';subst hS2;obtain⟨us0,hcs,hback⟩:=hm w' σ' _ β' _ v (by rw[List.length_map,iP]) hv
 have aiO:us0.length=r.length:=by rw[<-hcs.1,List.length_map,iP]
 obtain⟨us,vv⟩:=Vg r n (fun j=>us0.getD j undef) hp (fun j d hd=>by
  obtain⟨u,h1,h2,_⟩:=hcs.2 j (.d d) (by rw[List.getElem?_map,hd];rfl);simp only[List.getD_eq_getElem?_getD,h1,Option.getD_some]
  exact h2)
 let h0:Value:=.tuple (us.map fun u=>u.getD qp).toArray
 have hroot:∀j,qg h0 j=(us[j]?).map fun u=>u.getD qp:=fun j=>by simp[h0,qg]
 have hfresh:∀b,xW h0 b->w.heap.size<=b:=by
  rintro b ⟨j,T,h1,h2⟩;rw[hroot] at h1
  cases hu:us[j]? with
  |none=>rw[hu] at h1;cases h1
  |some u=>
   rw[hu] at h1;simp only[Option.map_some,Option.some.injEq] at h1
   cases u with
   |none=>subst h1;exact absurd h2 uW
   |some u=>
    simp at h1;subst h1;obtain⟨c,t,fz,m,a1,a2,a3,a4⟩:=vv.own j u hu b h2;refine Nat.le_of_not_lt fun hlt=> ?_;have h1:=(hst.far b hlt Fh).2;have h2:=hn b hlt;omega
 let σ2:Nat->Nat:=fun b=>if xW h0 b then 0 else σ' b
 have hg:Grow w σ w' σ2:=⟨hst.size,hst.os,hst.output,fun b hb=>by
  obtain⟨h1,h2⟩:=hst.far b hb Fh
  exact⟨h1,(if_neg fun hx=>by have:=hfresh b hx;omega).trans h2⟩,fun b=>by
  rcases hS'.live b with hb|hb
  ·exact .inl hb
  ·right;show(if xW h0 b then 0 else σ' b)=0;rw[hb];split<;>rfl⟩
 cases β with
 |nil=>have:=hS.shape.1;simp at this
 |cons bo bΩ=>
 have hlen:bo.length=bg.length:=by
  obtain⟨gr,g1,g2⟩:=hS.shape.2 0 bg rfl;simp at g1;rw[g1];exact g2
 obtain⟨hS3,hk3,abH⟩:=hS.push (o:=.xf (r.map Jq)) (h:=h0) hg hlen (by
  refine⟨fun j es hj=> ?_,fun j T hT=> ?_,fun b hb=>if_pos hb,fun j j' T T' x hjj hT hT' hx hx'=> ?_⟩
  ·rw[List.getElem?_map] at hj
   cases hd:r[j]? with
   |none=>rw[hd] at hj;cases hj
   |some d=>
    rw[hd] at hj;simp only[Option.map_some,Option.some.injEq] at hj;subst hj;obtain⟨u,h1,h2⟩:=vv.cell j d hd;rw[hroot,h1]
    have hsc:(∀es,d≠ .sl es)->∃T,Option.map (fun u=>Option.getD u qp) (some u)=some T/\nO w' (Jq d) T:=fun hne=>by
     have hu:u=none:=by cases d<;>first|exact absurd rfl (hne _)|exact h2.1
     have hr0:Jq d=[]:=by cases d<;>first|exact absurd rfl (hne _)|rfl
     subst hu;rw[hr0];exact⟨qp,rfl,.nil none 0 _ rfl Ec⟩
    cases d with
    |sl es=>obtain⟨T,rfl,_,_,h6⟩:=h2;exact⟨T,rfl,h6⟩
    |_=>exact hsc (fun es e=>by cases e)
  ·rw[List.length_map];rw[hroot] at hT
   cases hu:us[j]? with
   |none=>rw[hu] at hT;cases hT
   |some u=>rw[<-vv.len];exact(List.getElem?_eq_some_iff.1 hu).1
  ·rw[hroot] at hT hT'
   cases hu:us[j]? with
   |none=>rw[hu] at hT;cases hT
   |some u=>
    cases hu':us[j']? with
    |none=>rw[hu'] at hT';cases hT'
    |some u'=>
     rw[hu] at hT;rw[hu'] at hT';simp only[Option.map_some,Option.some.injEq] at hT hT'
     cases u with
     |none=>subst hT;exact uW hx
     |some u=>
      cases u' with
      |none=>subst hT';exact uW hx'
      |some u'=>simp at hT hT';subst hT;subst hT';exact vv.apart j j' u u' x hjj hu hu' hx hx') (fun b hb=>hfresh b hb)
 refine⟨v,_,_,σ2,(bo++[h0])::bΩ,he,hS3,hk3,abH,?_,rfl,rfl⟩;refine hback _ _ _ _ _ (by rw[Au]) ⟨by rw[Au,aiO],fun j x hx=> ?_⟩;rw[Sv,Nat.zero_add] at hx
 cases hd:r[j]? with
 |none=>rw[hd] at hx;cases hx
 |some d=>
  rw[hd] at hx;simp only[Option.map_some,Option.some.injEq] at hx;obtain⟨u,h1,h2⟩:=vv.cell j d hd
  have hjl:j<(dS r n).length:=by rw[iP];exact(List.getElem?_eq_some_iff.1 hd).1
  obtain⟨v0,h3,_,h4⟩:=hcs.2 j (.d (dS r n)[j]) (by rw[List.getElem?_map,List.getElem?_eq_getElem hjl];rfl)
  have hv0:us0.getD j undef=v0:=by rw[List.getD_eq_getElem?_getD,h3];rfl
  simp only[hv0] at h2;refine⟨v0,h3,?_,h4⟩
  have hsc:(∀es,d≠ .sl es)->fK w' σ2 ((bg++[.xf (r.map Jq)])::Ω) ((bo++[h0])::bΩ) (.d d) v0:=fun hne=>by
   have:SD d v0:=by cases d<;>first|exact absurd rfl (hne _)|exact h2.2
   exact Np this
  cases d with
  |sl es=>
   subst hx;obtain⟨T,rfl,_,h5,_⟩:=h2;refine⟨_,bq _ _ _,fun rs _=>⟨h0,by rw[<-hlen,bq],?_⟩⟩;unfold EH;rw[hroot,h1];exact h5
  |_=>subst hx;exact hsc (fun es e=>by cases e)
end
section
variable {P:Program} {w w':World} {σ σ':Nat->Nat} {S:Store} {β:Hs}
mutual
theorem aiP{σ2:Nat->Nat}(hs:∀b c t fz,w.heap[b]? =some (.cells c t fz)->c.size<σ b->σ2 b=σ b):∀(d:D)(n:Nat)(v:Value),mW d=true->bU w σ (lJ d n) v->bU w σ2 (lJ d n) v
 | .sl es,n,v,hp,h=>by
   rw[lJ] at h ⊢;have hrec:=acQ hs es (n+1);generalize eP es (n+1)=q at h hrec ⊢
   cases h with
   |oh n a cap=>exact .oh n a cap
   |ol n b off cap z q vals c t hcap hlen hb hσ hfit hc hv hx=>exact .ol n b off cap z q vals c t hcap hlen hb ((hs b c t _ hb (by omega)).trans hσ) hfit hc (hrec vals (by simpa [mW] using hp) hv) hx
 | .ol m es,n,v,hp,h=>by simp[mW] at hp
 | .b x,n,v,hp,h=>by rw[lJ] at h ⊢;cases h;constructor
 | .i k x,n,v,hp,h=>by rw[lJ] at h ⊢;cases h;constructor
 | .s l,n,v,hp,h=>by rw[lJ] at h ⊢;cases h;constructor
 | .o u,n,v,hp,h=>by simp[mW] at hp
theorem afI{σ2:Nat->Nat}(hs:∀b c t fz,w.heap[b]? =some (.cells c t fz)->c.size<σ b->σ2 b=σ b):∀(r:List D)(n:Nat)(vals:Nat->Value),iG r=true->(∀(j:Nat)(d:D),(dS r n)[j]? =some d->bU w σ d (vals j))->
 ∀(j:Nat)(d:D),(dS r n)[j]? =some d->bU w σ2 d (vals j)
 |[],n,vals,hp,h,j,d,hd=>by simp[dS] at hd
 |a::r,n,vals,hp,h,j,d,hd=>by
  rw[iG,Bool.and_eq_true] at hp;rw[dS] at h hd
  cases j with
  |zero=>
   simp at hd;subst hd;exact aiP hs a n _ hp.1 (h 0 _ rfl)
  |succ j=>exact afI hs r (n+oV a) (fun i=>vals (i+1)) hp.2 (fun i d hi=>h (i+1) d hi) j d hd
theorem acQ{σ2:Nat->Nat}(hs:∀b c t fz,w.heap[b]? =some (.cells c t fz)->c.size<σ b->σ2 b=σ b):∀(rs:List (List D))(n:Nat)(vals:Nat->Value),iU rs=true->(∀(j:Nat)(d:D),(eP rs n).flatten[j]? =some d->bU w σ d (vals j))->
 ∀(j:Nat)(d:D),(eP rs n).flatten[j]? =some d->bU w σ2 d (vals j)
 |[],n,vals,hp,h,j,d,hd=>by simp[eP] at hd
 |r::rs,n,vals,hp,h,j,d,hd=>by
  rw[iU,Bool.and_eq_true] at hp;rw[eP,List.flatten_cons] at h hd;by_cases hj:j<(dS r n).length
  ·rw[List.getElem?_append_left hj] at hd;exact afI hs r n vals hp.1 (fun j d hd=>h j d (by rw[List.getElem?_append_left (List.getElem?_eq_some_iff.1 hd).1];exact hd)) j d hd
  ·rw[List.getElem?_append_right (by omega)] at hd;have:=acQ hs rs (n+p9 r) (fun i=>vals ((dS r n).length+i)) hp.2 (fun j d hd=>h _ d (by rw[List.getElem?_append_right (by omega),Nat.add_sub_cancel_left];exact hd)) (j-(dS r n).length) d hd
   rwa [show(dS r n).length+(j-(dS r n).length)=j by omega] at this
end
theorem nO.data{es:List (List D)}{T v:Value}(h:nO w es T)(hv:hdr T=some v)(hσ:∀b c t fz,kI T b->w.heap[b]? =some (.cells c t fz)->c.size<=σ b):bU w σ (.sl es) v:=by
 induction h generalizing v with
 |nil a cap T h hk=>rw[h] at hv;cases hv;exact .nil a cap
 |mk b off cap z es T c t vals kids hh hne hcap hlen hb hfit hc hs hk hx hself hap qH ih=>
  rw[hh] at hv;cases hv;have hpos:0<es.length:=List.length_pos_iff.2 hne;have hfl:=gH es z hlen
  have hidx:∀j,j<es.length*z->∃hi:j/z<es.length,j % z<z/\j/z*z+j % z=j:=fun j hj=>by
   have hz:0<z:=by rcases Nat.eq_zero_or_pos z with h|h;·rw[h] at hj;simp at hj
                   ·exact h
   exact⟨(Nat.div_lt_iff_lt_mul hz).2 hj,Nat.mod_lt _ hz,by rw[Nat.mul_comm];exact Nat.div_add_mod j z⟩
  have hcell:∀j d,es.flatten[j]? =some d->∃hi:j/z<es.length,cellAt es (j/z) (j % z)=some d/\j/z*z+j % z=j:=fun j d hd=>by
   have hj:j<es.length*z:=by rw[<-hfl];exact(List.getElem?_eq_some_iff.1 hd).1
   obtain⟨hi,hm,he⟩:=hidx j hj;refine⟨hi,?_,he⟩;have:=flat_get es z hlen (j/z) (j % z) hi hm;rw[he,hd] at this;unfold cellAt;rw[List.getElem?_eq_getElem hi];exact this.symm
  refine .sl b off cap z es (fun j=>vals (j/z) (j % z)) c t (0,0) hcap hlen hb (Nat.le_trans hfit (hσ b c t _ (.here hh hpos) hb)) (fun j hj=> ?_) (fun j d hd=> ?_)
  ·obtain⟨hi,hce,he⟩:=hcell j _ (List.getElem?_eq_getElem (by rw[hfl];exact hj));have:=hc _ _ _ hce
   rwa [he] at this
  ·obtain⟨hi,hce,he⟩:=hcell j d hd;rcases hs _ _ _ hce with⟨es',rfl⟩|hsd
   ·obtain⟨k1,k2⟩:=hk _ _ _ hce;exact ih _ _ _ hce k2 fun b' c' t' ND ho hb'=>hσ b' c' t' ND (.kid k1 ho) hb'
   ·exact Np hsd
end
section
variable {P:Program} {w w':World} {σ σ':Nat->Nat} {S:Store} {β:Hs}
end
def afJ(n:Nat)(out:List UInt8):List UInt8:=if h:n=0 then out else afJ (n/10) (UInt8.ofNat (48+n % 10)::out)
termination_by n
decreasing_by omega
def ahl(k:Int):List UInt8:=if k<=0 then [109,48] else 109::afJ k.toNat []
mutual
def Jt:D->Nat
 | .sl es=>Cj es
 | .b _=>1
 | .i _ _=>1
 | .s _=>1
 | .o _=>0
 | .ol _ _=>0
def Sw:List D->Nat
 |[]=>0
 |d::ds=>Jt d+Sw ds
def Cj:List (List D)->Nat
 |[]=>0
 |r::rs=>Sw r+Cj rs
end
mutual
def mkD:D->Int->D
 | .sl es,k=>.sl (Vi es k)
 | .b _,k=>.b (decide (k.tmod 3=0))
 | .i kd _,k=>.i kd k
 | .s _,k=>.s (ahl k)
 | .o v,_=>.o v
 | .ol n es,_=>.ol n es
def mkR:List D->Int->List D
 |[],_=>[]
 |d::ds,k=>mkD d k::mkR ds (k+Jt d)
def Vi:List (List D)->Int->List (List D)
 |[],_=>[]
 |r::rs,k=>mkR r k::Vi rs (k+Sw r)
end
mutual
def tZ:D->Bool
 | .sl es=>jN es
 | .b _=>true
 | .i _ _=>true
 | .s _=>true
 | .o _=>true
 | .ol _ _=>true
def jy:List D->Bool
 |[]=>true
 |d::ds=>tZ d&&jy ds
def jN:List (List D)->Bool
 |[]=>true
 |r::rs=>decide (r.length<=32)&&jy r&&jN rs
end
mutual
theorem ahm:∀d:D,tZ d=true->Jt d<=32*d.sz+1
 | .sl es,h=>by
   have:=Yu es (by simpa [tZ] using h);simp only[Jt,D.sz];omega
 | .b _,_=>by simp[Jt]
 | .i _ _,_=>by simp[Jt]
 | .s _,_=>by simp[Jt]
 | .o _,_=>by simp[Jt]
 | .ol _ _,_=>by simp[Jt]
theorem Yv:∀r:List D,jy r=true->Sw r<=32*bN r+r.length
 |[],_=>by simp[Sw]
 |d::ds,h=>by
  rw[jy,Bool.and_eq_true] at h;have h1:=ahm d h.1;have h2:=Yv ds h.2;simp only[Sw,bN,List.length_cons];omega
theorem Yu:∀rs:List (List D),jN rs=true->Cj rs<=32*(rs.length+bC rs)
 |[],_=>by simp[Cj]
 |r::rs,h=>by
  rw[jN,Bool.and_eq_true,Bool.and_eq_true,decide_eq_true_eq] at h;have h1:=Yv r h.1.2;have h2:=Yu rs h.2;simp only[Cj,bC,List.length_cons];omega
end
theorem gD:∀a b,jy (a++b)=(jy a&&jy b)
 |[],b=>by simp[jy]
 |d::ds,b=>by rw[List.cons_append,jy,jy,gD ds b,Bool.and_assoc]
theorem j5{α:Type}{f:α->List D}:∀{xs:List α},(∀x∈xs,jy (f x)=true/\(f x).length<=32)->jN (xs.map f)=true
 |[],_=>rfl
 |x::xs,h=>by
  rw[List.map_cons,jN,(h x (by simp)).1,j5 fun y hy=>h y (by simp[hy]),decide_eq_true (h x (by simp)).2];rfl
abbrev ajJ(P:Program)(f:FuncId)(es:List (List D)):Prop:=∀(k:Int)(l j r:Nat)(p:List (Nat×Nat))(S:Store)(rs:List (List (List D))),aR S (l,j)=some (.xf rs)->atR rs r p=some es->0<=k/\k+Cj es<=4611686018427387904->
 bD P f [.c (.xp (l,j) r p),.c (.d (.i .i64 k))] S (fun res S'=>res=.c (.d (.i .i64 (k+Cj es)))/\S'=aT S (l,j) (.xf (Dh rs r p (Vi es k))))
abbrev ajK(P:Program)(f:FuncId)(es:List (List D)):Prop:=∀(k:Int)(l j r:Nat)(p:List (Nat×Nat))(S:Store)(rs:List (List (List D))),aR S (l,j)=some (.xf rs)->atR rs r p=some (Vi es k)->0<=k/\k+Cj es<=4611686018427387904->
 bD P f [.c (.xp (l,j) r p),.c (.d (.i .i64 k))] S (fun res S'=>res=.c (.d (.i .i64 (k+Cj es)))/\S'=S)
section
variable {P:Program} {N:Nat} {c:Code} {Q:Exit->St->Prop} {s:St} {S:Store} {l j r n:Nat} {p:List (Nat×Nat)} {rs:List (List (List D))} {rows:List (List D)} {k:Int}
abbrev ajL(l j r:Nat)(p:List (Nat×Nat))(k:Int)(i:Nat):List V:=[.c (.xp (1+l,j) r p),.c (.d (.i .i64 k)),.c (.d (.i .i64 i))]
end
theorem Pf:∀row:List D,(row.map C.d).mapM Hq=some row
 |[]=>rfl
 |d::row=>by
  have:=Pf row;rw[List.map_cons,List.mapM_cons,this];rfl
theorem uf(xs:List (List UInt8)):iU (xs.map encS)=true:=j4 fun _ _=>rfl
theorem ug(xs:List (List UInt8)):jN (xs.map encS)=true:=j5 fun _ _=>⟨rfl,by simp[encS]⟩
theorem Ck:∀(xs:List (List UInt8))(n:Nat),eP (xs.map encS) n=xs.map encS
 |[],_=>rfl
 |x::xs,n=>by rw[List.map_cons,eP,Ck xs];rfl
mutual
theorem ak.fu:∀x:ak,iG x.enc=true/\jy x.enc=true
 | .mk a0 a1 a2=>by simp only[ak.enc,iG,mW,jy,tZ,gB,gD,Bool.and_true,Bool.true_and,Bool.and_self,and_self,and_true,true_and,(ak.nD a2).1,(ak.nD a2).2]
theorem ak.nD:∀xs:List ak,iU (ak.encs xs)=true/\jN (ak.encs xs)=true
 |[]=>⟨rfl,rfl⟩
 |x::xs=>by
  have h:decide ((ak.enc x).length<=32)=true:=by rw[ak.bI];rfl
  simp only[ak.encs,iU,jN,h,(ak.fu x).1,(ak.fu x).2,(ak.nD xs).1,(ak.nD xs).2,Bool.and_self,and_self]
end
theorem ak.gW(xs:List ak):iU (xs.map ak.enc)=true/\jN (xs.map ak.enc)=true:=by rw[<-ak.jh];exact ak.nD xs
theorem dx.fu(x:dx):iG x.enc=true/\jy x.enc=true:=by
 rw[dx.aB];simp only[List.cons_append,List.nil_append,iG,mW,jy,tZ,gB,gD,Bool.and_true,Bool.true_and,Bool.and_self,and_self,and_true,true_and,(ak.fu x.fType).1,(ak.fu x.fType).2]
theorem dx.gW(xs:List dx):iU (xs.map dx.enc)=true/\jN (xs.map dx.enc)=true:=⟨j4 fun x _=>x.fu.1,j5 fun x _=>⟨x.fu.2,by rw[dx.bI];decide⟩⟩
theorem bO.fu(x:bO):iG x.enc=true/\jy x.enc=true:=by
 rw[bO.aB];simp only[List.cons_append,List.nil_append,iG,mW,jy,tZ,gB,gD,Bool.and_true,Bool.true_and,Bool.and_self,and_self,and_true,true_and,(ak.fu x.fType).1,(ak.fu x.fType).2]
theorem bO.gW(xs:List bO):iU (xs.map bO.enc)=true/\jN (xs.map bO.enc)=true:=⟨j4 fun x _=>x.fu.1,j5 fun x _=>⟨x.fu.2,by rw[bO.bI];decide⟩⟩
mutual
theorem ay.fu:∀x:ay,iG x.enc=true/\jy x.enc=true
 | .mk a0 a1 a2 a3 a4 a5 a6=>by simp only[ay.enc,iG,mW,jy,tZ,gB,gD,Bool.and_true,Bool.true_and,Bool.and_self,and_self,and_true,true_and,(ak.fu a4).1,(ak.fu a4).2,(ay.nD a5).1,(ay.nD a5).2,(aM.nD a6).1,(aM.nD a6).2]
theorem ay.nD:∀xs:List ay,iU (ay.encs xs)=true/\jN (ay.encs xs)=true
 |[]=>⟨rfl,rfl⟩
 |x::xs=>by
  have h:decide ((ay.enc x).length<=32)=true:=by rw[ay.bI];rfl
  simp only[ay.encs,iU,jN,h,(ay.fu x).1,(ay.fu x).2,(ay.nD xs).1,(ay.nD xs).2,Bool.and_self,and_self]
theorem aM.fu:∀x:aM,iG x.enc=true/\jy x.enc=true
 | .mk a0 a1 a2=>by simp only[aM.enc,iG,mW,jy,tZ,gB,gD,Bool.and_true,Bool.true_and,Bool.and_self,and_self,and_true,true_and,uf a1,ug a1,(ay.fu a2).1,(ay.fu a2).2]
theorem aM.nD:∀xs:List aM,iU (aM.encs xs)=true/\jN (aM.encs xs)=true
 |[]=>⟨rfl,rfl⟩
 |x::xs=>by
  have h:decide ((aM.enc x).length<=32)=true:=by rw[aM.bI];rfl
  simp only[aM.encs,iU,jN,h,(aM.fu x).1,(aM.fu x).2,(aM.nD xs).1,(aM.nD xs).2,Bool.and_self,and_self]
end
theorem ay.gW(xs:List ay):iU (xs.map ay.enc)=true/\jN (xs.map ay.enc)=true:=by rw[<-ay.jh];exact ay.nD xs
theorem aM.gW(xs:List aM):iU (xs.map aM.enc)=true/\jN (xs.map aM.enc)=true:=by rw[<-aM.jh];exact aM.nD xs
mutual
theorem ah.fu:∀x:ah,iG x.enc=true/\jy x.enc=true
 | .mk a0 a1=>by simp only[ah.enc,iG,mW,jy,tZ,gB,gD,Bool.and_true,Bool.true_and,Bool.and_self,and_self,and_true,true_and,(ah.nD a1).1,(ah.nD a1).2]
theorem ah.nD:∀xs:List ah,iU (ah.encs xs)=true/\jN (ah.encs xs)=true
 |[]=>⟨rfl,rfl⟩
 |x::xs=>by
  have h:decide ((ah.enc x).length<=32)=true:=by rw[ah.bI];rfl
  simp only[ah.encs,iU,jN,h,(ah.fu x).1,(ah.fu x).2,(ah.nD xs).1,(ah.nD xs).2,Bool.and_self,and_self]
end
theorem ah.gW(xs:List ah):iU (xs.map ah.enc)=true/\jN (xs.map ah.enc)=true:=by rw[<-ah.jh];exact ah.nD xs
theorem aF.fu(x:aF):iG x.enc=true/\jy x.enc=true:=by
 rw[aF.aB];simp only[List.cons_append,List.nil_append,iG,mW,jy,tZ,gB,gD,Bool.and_true,Bool.true_and,Bool.and_self,and_self,and_true,true_and,(ak.gW x.bL).1,(ak.gW x.bL).2,(ak.fu x.bP).1,(ak.fu x.bP).2,uf x.aX,ug x.aX,(ay.fu x.fBody).1,(ay.fu x.fBody).2]
theorem aF.gW(xs:List aF):iU (xs.map aF.enc)=true/\jN (xs.map aF.enc)=true:=⟨j4 fun x _=>x.fu.1,j5 fun x _=>⟨x.fu.2,by rw[aF.bI];decide⟩⟩
theorem aU.fu(x:aU):iG x.enc=true/\jy x.enc=true:=by
 rw[aU.aB];simp only[List.cons_append,List.nil_append,iG,mW,jy,tZ,gB,gD,Bool.and_true,Bool.true_and,Bool.and_self,and_self,and_true,true_and,uf x.aV,ug x.aV,(aF.gW x.aC).1,(aF.gW x.aC).2]
theorem aU.gW(xs:List aU):iU (xs.map aU.enc)=true/\jN (xs.map aU.enc)=true:=⟨j4 fun x _=>x.fu.1,j5 fun x _=>⟨x.fu.2,by rw[aU.bI];decide⟩⟩
theorem aS.fu(x:aS):iG x.enc=true/\jy x.enc=true:=by
 rw[aS.aB];simp only[List.cons_append,List.nil_append,iG,mW,jy,tZ,gB,gD,Bool.and_true,Bool.true_and,Bool.and_self,and_self,and_true,true_and,(ak.gW x.oQ).1,(ak.gW x.oQ).2]
theorem aS.gW(xs:List aS):iU (xs.map aS.enc)=true/\jN (xs.map aS.enc)=true:=⟨j4 fun x _=>x.fu.1,j5 fun x _=>⟨x.fu.2,by rw[aS.bI];decide⟩⟩
theorem dh.fu(x:dh):iG x.enc=true/\jy x.enc=true:=by
 rw[dh.aB];simp only[List.cons_append,List.nil_append,iG,mW,jy,tZ,gB,gD,Bool.and_true,Bool.true_and,Bool.and_self,and_self,and_true,true_and,uf x.aX,ug x.aX,(aS.gW x.jS).1,(aS.gW x.jS).2]
theorem dh.gW(xs:List dh):iU (xs.map dh.enc)=true/\jN (xs.map dh.enc)=true:=⟨j4 fun x _=>x.fu.1,j5 fun x _=>⟨x.fu.2,by rw[dh.bI];decide⟩⟩
theorem bM.fu(x:bM):iG x.enc=true/\jy x.enc=true:=by
 rw[bM.aB];simp only[List.cons_append,List.nil_append,iG,mW,jy,tZ,gB,gD,Bool.and_true,Bool.true_and,Bool.and_self,and_self,and_true,true_and,uf x.aX,ug x.aX,(ay.fu x.fBody).1,(ay.fu x.fBody).2]
theorem bM.gW(xs:List bM):iU (xs.map bM.enc)=true/\jN (xs.map bM.enc)=true:=⟨j4 fun x _=>x.fu.1,j5 fun x _=>⟨x.fu.2,by rw[bM.bI];decide⟩⟩
theorem dn.fu(x:dn):iG x.enc=true/\jy x.enc=true:=by
 rw[dn.aB];simp only[List.cons_append,List.nil_append,iG,mW,jy,tZ,gB,gD,Bool.and_true,Bool.true_and,Bool.and_self,and_self,and_true,true_and,uf x.aX,ug x.aX,(ak.fu x.uR).1,(ak.fu x.uR).2,(bO.gW x.ji).1,(bO.gW x.ji).2,(ak.fu x.eX).1,(ak.fu x.eX).2,(bM.gW x.ou).1,(bM.gW x.ou).2]
theorem dn.gW(xs:List dn):iU (xs.map dn.enc)=true/\jN (xs.map dn.enc)=true:=⟨j4 fun x _=>x.fu.1,j5 fun x _=>⟨x.fu.2,by rw[dn.bI];decide⟩⟩
theorem dW.fu(x:dW):iG x.enc=true/\jy x.enc=true:=by
 rw[dW.aB];simp only[List.cons_append,List.nil_append,iG,mW,jy,tZ,gB,gD,Bool.and_true,Bool.true_and,Bool.and_self,and_self,and_true,true_and,(ak.fu x.fType).1,(ak.fu x.fType).2]
theorem dW.gW(xs:List dW):iU (xs.map dW.enc)=true/\jN (xs.map dW.enc)=true:=⟨j4 fun x _=>x.fu.1,j5 fun x _=>⟨x.fu.2,by rw[dW.bI];decide⟩⟩
theorem bZ.fu(x:bZ):iG x.enc=true/\jy x.enc=true:=by
 rw[bZ.aB];simp only[List.cons_append,List.nil_append,iG,mW,jy,tZ,gB,gD,Bool.and_true,Bool.true_and,Bool.and_self,and_self,and_true,true_and,uf x.aX,ug x.aX,(bO.gW x.ji).1,(bO.gW x.ji).2,(dW.gW x.bL).1,(dW.gW x.bL).2,(ak.fu x.bP).1,(ak.fu x.bP).2,(ay.fu x.fBody).1,(ay.fu x.fBody).2]
theorem bZ.gW(xs:List bZ):iU (xs.map bZ.enc)=true/\jN (xs.map bZ.enc)=true:=⟨j4 fun x _=>x.fu.1,j5 fun x _=>⟨x.fu.2,by rw[bZ.bI];decide⟩⟩
theorem dP.fu(x:dP):iG x.enc=true/\jy x.enc=true:=by
 rw[dP.aB];simp only[List.cons_append,List.nil_append,iG,mW,jy,tZ,gB,gD,Bool.and_true,Bool.true_and,Bool.and_self,and_self,and_true,true_and,uf x.zL,ug x.zL,(aU.gW x.tL).1,(aU.gW x.tL).2,(dh.gW x.nR).1,(dh.gW x.nR).2,(dn.gW x.nS).1,(dn.gW x.nS).2,(bZ.gW x.nT).1,(bZ.gW x.nT).2]
theorem dP.gW(xs:List dP):iU (xs.map dP.enc)=true/\jN (xs.map dP.enc)=true:=⟨j4 fun x _=>x.fu.1,j5 fun x _=>⟨x.fu.2,by rw[dP.bI];decide⟩⟩
theorem eT.fu(x:eT):iG x.enc=true/\jy x.enc=true:=by
 rw[eT.aB];simp only[List.cons_append,List.nil_append,iG,mW,jy,tZ,gB,gD,Bool.and_true,Bool.true_and,Bool.and_self,and_self,and_true,true_and,(dP.gW x.pO).1,(dP.gW x.pO).2]
theorem eT.gW(xs:List eT):iU (xs.map eT.enc)=true/\jN (xs.map eT.enc)=true:=⟨j4 fun x _=>x.fu.1,j5 fun x _=>⟨x.fu.2,by rw[eT.bI];decide⟩⟩
theorem cO.fu(x:cO):iG x.enc=true/\jy x.enc=true:=by
 rw[cO.aB];simp only[List.cons_append,List.nil_append,iG,mW,jy,tZ,gB,gD,Bool.and_true,Bool.true_and,Bool.and_self,and_self,and_true,true_and]
theorem cO.gW(xs:List cO):iU (xs.map cO.enc)=true/\jN (xs.map cO.enc)=true:=⟨j4 fun x _=>x.fu.1,j5 fun x _=>⟨x.fu.2,by rw[cO.bI];decide⟩⟩
theorem Yw(b:UInt8):decide (firstIdx ⟨[39,45,43,42,60,61,46].toArray⟩ b>=0)=decide (b∈([39,45,43,42,60,61,46]:List UInt8)):=by
 have h:∀n:Nat,n<256->decide (firstIdx ⟨[39,45,43,42,60,61,46].toArray⟩ (UInt8.ofNat n)>=0)=decide (UInt8.ofNat n∈([39,45,43,42,60,61,46]:List UInt8)):=by decide +kernel
 have h1:=h b.toNat (UInt8.toNat_lt b)
 rwa [UInt8.ofNat_toNat] at h1
theorem abI(b:UInt8):b∈([39,45,43,42,60,61,46]:List UInt8)<->(b.toNat=39\/b.toNat=45\/b.toNat=43\/b.toNat=42\/b.toNat=60\/b.toNat=61\/b.toNat=46):=by
 have h:∀n:Nat,n<256->(UInt8.ofNat n∈([39,45,43,42,60,61,46]:List UInt8)<->(n=39\/n=45\/n=43\/n=42\/n=60\/n=61\/n=46)):=by decide +kernel
 have h1:=h b.toNat (UInt8.toNat_lt b)
 rwa [UInt8.ofNat_toNat] at h1
theorem rG(b:UInt8):jD b=true<->(97<=b.toNat/\b.toNat<=122)\/(48<=b.toNat/\b.toNat<=57)\/b.toNat=39\/b.toNat=45\/b.toNat=43\/b.toNat=42\/b.toNat=60\/b.toNat=61\/b.toNat=46:=by
 unfold jD;rw[Bool.or_eq_true,Bool.or_eq_true,decide_eq_true_eq,decide_eq_true_eq,decide_eq_true_eq,abI,or_assoc]
theorem all_false{s:List UInt8}{i:Nat}(hi:i<s.length)(h:jD s[i]=false):s.all jD=false:=by
 rw[List.all_eq_false];exact⟨s[i],List.getElem_mem hi,by simp[h]⟩
theorem all_true{s:List UInt8}(h:∀j (hj:j<s.length),jD s[j]=true):s.all jD=true:=by
 rw[List.all_eq_true];intro b hb;obtain⟨j,hj,e⟩:=List.getElem_of_mem hb;rw[<-e];exact h j hj
theorem yG{x:ah}{i:Nat}(hi:i<x.aj.length)(h:x.sz<=67108864):x.aj[i].sz<=67108864/\x.aj.length<=67108864/\x.aQ.length<=67108864:=by
 have:=jL (List.getElem_mem hi);rw[gY,jC] at h;omega
theorem Bj{x:ah}(h:x.sz<=67108864):x.aj.length<=67108864/\x.aQ.length<=67108864:=by
 rw[gY,jC] at h;omega
theorem Rn{l:List ah}{i:Nat}(hi:i<l.length):iY (l.drop i)=(iM l[i]&&iY (l.drop (i+1))):=by rw[List.drop_eq_getElem_cons hi,iY]
theorem Ed{l:List ah}{i:Nat}(hi:i<l.length):nu (l.drop i)=max (kS l[i]) (nu (l.drop (i+1))):=by rw[List.drop_eq_getElem_cons hi,nu]
theorem F5{l:List ah}{i:Nat}(hi:i<l.length):l8 (l.drop i)=jT l[i]+l8 (l.drop (i+1)):=by rw[List.drop_eq_getElem_cons hi,l8]
theorem GL{x:ah}(h:x.sz<=67108864):jT x<=67108865:=by have:=O9 x;omega
theorem ah.Ju{x:ah}{i:Nat}(hi:i<x.aj.length):SizeOf.sizeOf x.aj[i]<SizeOf.sizeOf x:=by
 have:=List.sizeOf_lt_of_mem (List.getElem_mem hi);have:=ah.oP x;omega
theorem Jv(l:List UInt8)(b:UInt8):aG prog 235 [.c (.d (.s l)),.c (.d (.i .u8 b.toNat))] (.c (.d (.i .i64 (firstIdx ⟨l.toArray⟩ b)))):=fun S=>by
 refine zcx [.tmp 4] func235 ntmps235 ?_;simp -implicitDefEqProofs (disch:=omega) only[go_sem];refine au (D9 l b) ?_;simp -implicitDefEqProofs (disch:=omega) only[go_sem]<;>(repeat(with_reducible refine And.intro ?_ ?_;focus first|omega|rfl|assumption|exact⟨_,rfl,rfl⟩|(simp;omega)|(simp;done)))
theorem MN(b:UInt8):aG prog 223 [.c (.d (.i .u8 b.toNat))] (.c (.d (.b (jD b)))):=fun S=>by
 refine zcx [.tmp 2] func223 ntmps223 ?_;simp -implicitDefEqProofs (disch:=omega) only[go_sem];refine au (I7 b) ?_;simp -implicitDefEqProofs (disch:=omega) only[go_sem]<;>(repeat(with_reducible refine And.intro ?_ ?_;focus first|omega|rfl|assumption|exact⟨_,rfl,rfl⟩|(simp;omega)|(simp;done)))
 with_reducible refine aA (fun hb=> ?_) (fun hb=> ?_)<;>have h:=hb<;>(try simp only[wf_preprocess] at h)<;>simp -implicitDefEqProofs (disch:=omega) only[go_sem,hb]<;>(repeat(with_reducible refine And.intro ?_ ?_;focus first|omega|rfl|assumption|exact⟨_,rfl,rfl⟩|(simp;omega)|(simp;done)))
 ·exact aI ((rG b).2 (.inl h)).symm
 have h1:=h;refine au (I8 b) ?_;simp -implicitDefEqProofs (disch:=omega) only[go_sem]<;>(repeat(with_reducible refine And.intro ?_ ?_;focus first|omega|rfl|assumption|exact⟨_,rfl,rfl⟩|(simp;omega)|(simp;done)))
 with_reducible refine aA (fun hb=> ?_) (fun hb=> ?_)<;>have h:=hb<;>(try simp only[wf_preprocess] at h)<;>simp -implicitDefEqProofs (disch:=omega) only[go_sem,hb]<;>(repeat(with_reducible refine And.intro ?_ ?_;focus first|omega|rfl|assumption|exact⟨_,rfl,rfl⟩|(simp;omega)|(simp;done)))
 ·exact aI ((rG b).2 (.inr (.inl h))).symm
 have h2:=h;refine au (Jv [39,45,43,42,60,61,46] b) ?_;simp -implicitDefEqProofs (disch:=omega) only[go_sem]<;>(repeat(with_reducible refine And.intro ?_ ?_;focus first|omega|rfl|assumption|exact⟨_,rfl,rfl⟩|(simp;omega)|(simp;done)));refine aI ?_;rw[Yw];unfold jD;unfold lowerB at h1;unfold nV at h2;simp[h1,h2]
theorem Vj(s:List UInt8)(hs:s.length<=1073741824):aG prog 195 [.c (.d (.s s))] (.c (.d (.b (validAtom s)))):=fun S=>by
 refine zcx [.tmp 2] func195 ntmps195 ?_;simp -implicitDefEqProofs (disch:=omega) only[go_sem]
 refine aZ (ι:=Nat) zmx rfl [0,5,6] (fun i=>[.c (.d (.s s)),.c (.d (.i .i64 s.length)),.c (.d (.i .i64 i))]) (fun _=>[]::S)
  (fun i=>i<=s.length/\∀j,∀hj:j<s.length,j<i->jD s[j]=true) (fun i=>s.length-i) 0 rfl rfl ⟨Nat.zero_le _,fun j _ h=>by omega⟩ ?_
 rintro i ⟨p1,p2⟩;simp -implicitDefEqProofs (disch:=omega) only[go_sem]
 with_reducible refine aA (fun hb=> ?_) (fun hb=> ?_)<;>have h:=hb<;>(try simp only[wf_preprocess] at h)<;>simp -implicitDefEqProofs (disch:=omega) only[go_sem,hb]<;>(repeat(with_reducible refine And.intro ?_ ?_;focus first|omega|rfl|assumption|exact⟨_,rfl,rfl⟩|(simp;omega)|(simp;done)))
 ·have hi:i<s.length:=by omega
  have e:s.getD i 0=s[i]:=by simp[List.getD,hi]
  (repeat(with_reducible refine And.intro ?_ ?_;focus first|omega|rfl|assumption|exact⟨_,rfl,rfl⟩|(simp;omega)|(simp;done)))
  rw[e];refine au (MN s[i]) ?_;simp -implicitDefEqProofs (disch:=omega) only[go_sem]<;>(repeat(with_reducible refine And.intro ?_ ?_;focus first|omega|rfl|assumption|exact⟨_,rfl,rfl⟩|(simp;omega)|(simp;done)))
  with_reducible refine aA (fun hb=> ?_) (fun hb=> ?_)<;>have h:=hb<;>(try simp only[wf_preprocess] at h)<;>simp -implicitDefEqProofs (disch:=omega) only[go_sem,hb]<;>(repeat(with_reducible refine And.intro ?_ ?_;focus first|omega|rfl|assumption|exact⟨_,rfl,rfl⟩|(simp;omega)|(simp;done)))
  ·exact aI (by unfold validAtom;rw[all_false hi h];rfl)
  ·refine cK (i+1) (by omega) rfl rfl ⟨by omega,fun j hj hji=> ?_⟩;by_cases e':j=i
   ·subst e';exact h
   ·exact p2 j hj (by omega)
 ·have ha:=all_true (s:=s) (fun j hj=>p2 j hj (by omega))
  with_reducible refine aA (fun hb=> ?_) (fun hb=> ?_)<;>have h:=hb<;>(try simp only[wf_preprocess] at h)<;>simp -implicitDefEqProofs (disch:=omega) only[go_sem,hb]<;>(repeat(with_reducible refine And.intro ?_ ?_;focus first|omega|rfl|assumption|exact⟨_,rfl,rfl⟩|(simp;omega)|(simp;done)))
  ·refine aI ?_;unfold validAtom;rw[ha,Bool.true_and];exact decide_eq_decide.2 (by omega)
  ·refine aI ?_;unfold validAtom;rw[ha,Bool.true_and];exact(decide_eq_false (by omega)).symm
theorem Yx(b:UInt8):aG prog 214 [.c (.d (.i .u8 b.toNat))] (.c (.d (.b (jD b)))):=fun S=>by
 have yes:((97<=b.toNat/\b.toNat<=122)\/(48<=b.toNat/\b.toNat<=57)\/b.toNat=39\/b.toNat=45\/b.toNat=43\/b.toNat=42\/b.toNat=60\/b.toNat=61\/b.toNat=46)->jD b=true:=(rG b).2
 have no:¬((97<=b.toNat/\b.toNat<=122)\/(48<=b.toNat/\b.toNat<=57)\/b.toNat=39\/b.toNat=45\/b.toNat=43\/b.toNat=42\/b.toNat=60\/b.toNat=61\/b.toNat=46)->jD b=false:=fun h=>by
  cases hb:jD b with
  |false=>rfl
  |true=>exact absurd ((rG b).1 hb) h
 refine zcx [.tmp 2] func214 ntmps214 ?_;simp -implicitDefEqProofs (disch:=omega) only[go_sem]
 repeat' (first|(with_reducible refine aA (fun hb=> ?_) (fun hb=> ?_)<;>have h:=hb<;>(try simp only[wf_preprocess] at h)<;>simp -implicitDefEqProofs (disch:=omega) only[go_sem,hb]<;>(repeat(with_reducible refine And.intro ?_ ?_;focus first|omega|rfl|assumption|exact⟨_,rfl,rfl⟩|(simp;omega)|(simp;done)))))
 all_goals first
  |exact aI (yes (by omega)).symm
  |exact aI (no (by omega)).symm
  |(refine aI ?_;cases hb:jD b<;>simp only[decide_eq_true_eq,decide_eq_false_iff_not]<;>(first|(have:=(rG b).1 hb;omega)|(intro q;have:=yes (by omega);rw[hb] at this;cases this)))
theorem Vk(s:List UInt8)(hs:s.length<=1073741824):aG prog 188 [.c (.d (.s s))] (.c (.d (.b (validAtom s)))):=fun S=>by
 refine zcx [.tmp 2] func188 ntmps188 ?_;simp -implicitDefEqProofs (disch:=omega) only[go_sem]
 refine aZ (ι:=Nat) zmx rfl [0,3] (fun i=>[.c (.d (.s s)),.c (.d (.i .i64 i))]) (fun _=>[]::S)
  (fun i=>i<=s.length/\∀j,∀hj:j<s.length,j<i->jD s[j]=true) (fun i=>s.length-i) 0 rfl rfl ⟨Nat.zero_le _,fun j _ h=>by omega⟩ ?_
 rintro i ⟨p1,p2⟩;simp -implicitDefEqProofs (disch:=omega) only[go_sem]
 with_reducible refine aA (fun hb=> ?_) (fun hb=> ?_)<;>have h:=hb<;>(try simp only[wf_preprocess] at h)<;>simp -implicitDefEqProofs (disch:=omega) only[go_sem,hb]<;>(repeat(with_reducible refine And.intro ?_ ?_;focus first|omega|rfl|assumption|exact⟨_,rfl,rfl⟩|(simp;omega)|(simp;done)))
 ·have hi:i<s.length:=by omega
  have e:s.getD i 0=s[i]:=by simp[List.getD,hi]
  (repeat(with_reducible refine And.intro ?_ ?_;focus first|omega|rfl|assumption|exact⟨_,rfl,rfl⟩|(simp;omega)|(simp;done)))
  rw[e];refine au (Yx s[i]) ?_;simp -implicitDefEqProofs (disch:=omega) only[go_sem]<;>(repeat(with_reducible refine And.intro ?_ ?_;focus first|omega|rfl|assumption|exact⟨_,rfl,rfl⟩|(simp;omega)|(simp;done)))
  with_reducible refine aA (fun hb=> ?_) (fun hb=> ?_)<;>have h:=hb<;>(try simp only[wf_preprocess] at h)<;>simp -implicitDefEqProofs (disch:=omega) only[go_sem,hb]<;>(repeat(with_reducible refine And.intro ?_ ?_;focus first|omega|rfl|assumption|exact⟨_,rfl,rfl⟩|(simp;omega)|(simp;done)))
  ·exact aI (by unfold validAtom;rw[all_false hi h];rfl)
  ·refine cK (i+1) (by omega) rfl rfl ⟨by omega,fun j hj hji=> ?_⟩;by_cases e':j=i
   ·subst e';exact h
   ·exact p2 j hj (by omega)
 ·have ha:=all_true (s:=s) (fun j hj=>p2 j hj (by omega));refine au (Bd s.length 1 12) ?_;simp -implicitDefEqProofs (disch:=omega) only[go_sem]<;>(repeat(with_reducible refine And.intro ?_ ?_;focus first|omega|rfl|assumption|exact⟨_,rfl,rfl⟩|(simp;omega)|(simp;done)));refine aI ?_;unfold validAtom;rw[ha,Bool.true_and,<-jr];exact decide_eq_decide.2 (by omega)
theorem Ee:∀n:Nat,(∀x:ah,SizeOf.sizeOf x<n->x.sz<=67108864->aG prog 163 [x.v] (.c (.d (.b (iM x)))))/\
 (∀xs:List ah,SizeOf.sizeOf xs<n->xs.length<=67108864->(∀t∈xs,t.sz<=67108864)->aG prog 196 [.c (.d (.sl (xs.map ah.enc))),.c (.fn 197 [])] (.c (.d (.b (!iY xs)))))
 |0=>⟨fun x h=>by omega,fun x h=>by omega⟩
 |n+1=>by
  obtain⟨ih,mo⟩:=Ee n;refine⟨fun x hn hsz S=> ?_,fun xs hn hlen hsz S=> ?_⟩
  ·have je:=ah.oP x;have hts:=Bj hsz
   have hall:∀t∈x.aj,t.sz<=67108864:=fun t ht=>by
    obtain⟨i,hi,e⟩:=List.getElem_of_mem ht;rw[<-e];exact(yG hi hsz).1
   have tail:=mo x.aj (by omega) hts.1 hall;have hf:=zn x;refine zcx [.tmp 2] func163 ntmps163 ?_;simp -implicitDefEqProofs (disch:=omega) only[go_sem]
   with_reducible refine aA (fun hb=> ?_) (fun hb=> ?_)<;>have h:=hb<;>(try simp only[wf_preprocess] at h)<;>simp -implicitDefEqProofs (disch:=omega) only[go_sem,hb]<;>(repeat(with_reducible refine And.intro ?_ ?_;focus first|omega|rfl|assumption|exact⟨_,rfl,rfl⟩|(simp;omega)|(simp;done)))
   ·rw[if_neg h] at hf;refine au (Vj x.aQ (by omega)) ?_;simp -implicitDefEqProofs (disch:=omega) only[go_sem]<;>(repeat(with_reducible refine And.intro ?_ ?_;focus first|omega|rfl|assumption|exact⟨_,rfl,rfl⟩|(simp;omega)|(simp;done)))
    with_reducible refine aA (fun hb=> ?_) (fun hb=> ?_)<;>have h:=hb<;>(try simp only[wf_preprocess] at h)<;>simp -implicitDefEqProofs (disch:=omega) only[go_sem,hb]<;>(repeat(with_reducible refine And.intro ?_ ?_;focus first|omega|rfl|assumption|exact⟨_,rfl,rfl⟩|(simp;omega)|(simp;done)))
    ·rw[hf,h,Bool.true_and];exact aI (decide_eq_decide.2 (by omega))
    ·rw[hf,h,Bool.false_and]
   ·rw[if_pos h] at hf;refine au tail ?_;simp -implicitDefEqProofs (disch:=omega) only[go_sem];rw[hf,Bool.not_not]
  ·have hcl:∀y∈xs,aG prog 197 [y.v] (.c (.d (.b (!iM y)))):=fun y hy S=>by
    have hys:=List.sizeOf_lt_of_mem hy;refine zcx [.tmp 2] func197 ntmps197 ?_;simp -implicitDefEqProofs (disch:=omega) only[go_sem];refine au (ih y (by omega) (hsz y hy)) ?_;simp -implicitDefEqProofs (disch:=omega) only[go_sem]<;>(repeat(with_reducible refine And.intro ?_ ?_;focus first|omega|rfl|assumption|exact⟨_,rfl,rfl⟩|(simp;omega)|(simp;done)))
   have hidx:aG prog 224 [.c (.d (.sl (xs.map ah.enc))),.c (.fn 197 [])] (.c (.d (.i .i64 (qj (fun y=> !iM y) xs)))):=fun S=>by
    refine zcx [.tmp 4] func224 ntmps224 ?_;simp -implicitDefEqProofs (disch:=omega) only[go_sem]
    refine aZ (ι:=Nat) zmx rfl [0,1,7,8] (fun i=>[.c (.d (.sl (xs.map ah.enc))),.c (.fn 197 []),.c (.d (.i .i64 xs.length)),.c (.d (.i .i64 i))]) (fun _=>[]::S)
     (fun i=>i<=xs.length/\∀j,∀hj:j<xs.length,j<i->iM xs[j]=true) (fun i=>xs.length-i) 0 rfl rfl ⟨Nat.zero_le _,fun j _ h=>by omega⟩ ?_
    rintro i ⟨p1,p2⟩;simp -implicitDefEqProofs (disch:=omega) only[go_sem]
    with_reducible refine aA (fun hb=> ?_) (fun hb=> ?_)<;>have h:=hb<;>(try simp only[wf_preprocess] at h)<;>simp -implicitDefEqProofs (disch:=omega) only[go_sem,hb]<;>(repeat(with_reducible refine And.intro ?_ ?_;focus first|omega|rfl|assumption|exact⟨_,rfl,rfl⟩|(simp;omega)|(simp;done)))
    ·have hi:i<xs.length:=by omega
     (repeat(with_reducible refine And.intro ?_ ?_;focus first|omega|rfl|assumption|exact⟨_,rfl,rfl⟩|(simp;omega)|(simp;done)))
     refine au (hcl xs[i] (List.getElem_mem hi)) ?_;simp -implicitDefEqProofs (disch:=omega) only[go_sem]<;>(repeat(with_reducible refine And.intro ?_ ?_;focus first|omega|rfl|assumption|exact⟨_,rfl,rfl⟩|(simp;omega)|(simp;done)))
     with_reducible refine aA (fun hb=> ?_) (fun hb=> ?_)<;>have h:=hb<;>(try simp only[wf_preprocess] at h)<;>simp -implicitDefEqProofs (disch:=omega) only[go_sem,hb]<;>(repeat(with_reducible refine And.intro ?_ ?_;focus first|omega|rfl|assumption|exact⟨_,rfl,rfl⟩|(simp;omega)|(simp;done)))
     ·rw[qD hi (fun j hj hji=>by rw[p2 j hj hji];rfl) (by rw[h];rfl)]
     ·refine cK (i+1) (by omega) rfl rfl ⟨by omega,fun j hj hji=> ?_⟩;by_cases e:j=i
      ·subst e;exact h
      ·exact p2 j hj (by omega)
    ·rw[tT (fun j hj=>by rw[p2 j hj (by omega)];rfl)]
   refine zcx [.tmp 4] func196 ntmps196 ?_;simp -implicitDefEqProofs (disch:=omega) only[go_sem];refine au (hidx) ?_;simp -implicitDefEqProofs (disch:=omega) only[go_sem]<;>(repeat(with_reducible refine And.intro ?_ ?_;focus first|omega|rfl|assumption|exact⟨_,rfl,rfl⟩|(simp;omega)|(simp;done)));rw[<-Jo];exact aI rQ
theorem Ro(x:ah)(hsz:x.sz<=67108864):aG prog 163 [x.v] (.c (.d (.b (iM x)))):=(Ee _).1 x (Nat.lt_succ_self _) hsz
theorem Bl:∀n:Nat,∀x:ah,SizeOf.sizeOf x<n->x.sz<=67108864->aG prog 164 [x.v] (.c (.d (.i .i64 (kS x))))
 |0=>fun x h=>by omega
 |n+1=>by
  have ih:=Bl n;intro x hn hsz S;have hts:=Bj hsz;have hd:=LA x;have hd1:=Ar x;have hd2:=GL hsz;refine zcx [.tmp 2] func164 ntmps164 ?_;simp -implicitDefEqProofs (disch:=omega) only[go_sem]
  with_reducible refine aA (fun hb=> ?_) (fun hb=> ?_)<;>have h:=hb<;>(try simp only[wf_preprocess] at h)<;>simp -implicitDefEqProofs (disch:=omega) only[go_sem,hb]<;>(repeat(with_reducible refine And.intro ?_ ?_;focus first|omega|rfl|assumption|exact⟨_,rfl,rfl⟩|(simp;omega)|(simp;done)))
  ·rw[if_neg h] at hd;rw[hd];rfl
  rw[if_pos h] at hd
  refine aZ (ι:=Nat×Nat) zmx rfl [3,10,11,12] (fun y=>[.c (.d (.i .i64 y.2)),.c (.d (.sl (x.aj.map ah.enc))),.c (.d (.i .i64 x.aj.length)),.c (.d (.i .i64 y.1))]) (fun y=>[.box [.d (.s x.aQ),.d (.sl (x.aj.map ah.enc))]]::S)
   (fun y=>y.1<=x.aj.length/\kS x=max y.2 (nu (x.aj.drop y.1))+1) (fun y=>x.aj.length-y.1) (0,0) rfl rfl ⟨Nat.zero_le _,by simp[hd]⟩ ?_
  rintro⟨i,c⟩ ⟨p1,p2⟩;simp only at p1 p2;simp -implicitDefEqProofs (disch:=omega) only[go_sem]
  with_reducible refine aA (fun hb=> ?_) (fun hb=> ?_)<;>have h:=hb<;>(try simp only[wf_preprocess] at h)<;>simp -implicitDefEqProofs (disch:=omega) only[go_sem,hb]<;>(repeat(with_reducible refine And.intro ?_ ?_;focus first|omega|rfl|assumption|exact⟨_,rfl,rfl⟩|(simp;omega)|(simp;done)))
  ·have hi:i<x.aj.length:=by omega
   have hsz':=yG hi hsz;rw[Ed hi] at p2
   (repeat(with_reducible refine And.intro ?_ ?_;focus first|omega|rfl|assumption|exact⟨_,rfl,rfl⟩|(simp;omega)|(simp;done)))
   refine au (ih x.aj[i] (by have:=ah.Ju hi;omega) (by omega)) ?_;simp -implicitDefEqProofs (disch:=omega) only[go_sem]<;>(repeat(with_reducible refine And.intro ?_ ?_;focus first|omega|rfl|assumption|exact⟨_,rfl,rfl⟩|(simp;omega)|(simp;done)));rw[show max (c:Int) ((kS x.aj[i]:Int))=((max c (kS x.aj[i]):Nat):Int) by omega];exact dD 1 (by decide) (i+1,max c (kS x.aj[i])) (by simp only;omega) rfl rfl rfl rfl ⟨by simp only;omega,by simp only;omega⟩
  ·have hi:i=x.aj.length:=by omega
   rw[hi,List.drop_length,nu] at p2
   (repeat(with_reducible refine And.intro ?_ ?_;focus first|omega|rfl|assumption|exact⟨_,rfl,rfl⟩|(simp;omega)|(simp;done)))
   exact int_eq (by omega)
theorem MO(x:ah)(hsz:x.sz<=67108864):aG prog 164 [x.v] (.c (.d (.i .i64 (kS x)))):=Bl _ x (Nat.lt_succ_self _) hsz
theorem CZ:∀n:Nat,∀x:ah,SizeOf.sizeOf x<n->x.sz<=67108864->aG prog 165 [x.v] (.c (.d (.i .i64 (jT x))))
 |0=>fun x h=>by omega
 |n+1=>by
  have ih:=CZ n;intro x hn hsz S;have hts:=Bj hsz;have hd2:=GL hsz;refine zcx [.tmp 2] func165 ntmps165 ?_;simp -implicitDefEqProofs (disch:=omega) only[go_sem]
  refine aZ (ι:=Nat×Nat) zmx rfl [3,7,8,9] (fun y=>[.c (.d (.i .i64 y.2)),.c (.d (.sl (x.aj.map ah.enc))),.c (.d (.i .i64 x.aj.length)),.c (.d (.i .i64 y.1))]) (fun y=>[.box [.d (.s x.aQ),.d (.sl (x.aj.map ah.enc))]]::S)
   (fun y=>y.1<=x.aj.length/\jT x=y.2+l8 (x.aj.drop y.1)) (fun y=>x.aj.length-y.1) (0,1) rfl rfl ⟨Nat.zero_le _,by simp[O8];omega⟩ ?_
  rintro⟨i,c⟩ ⟨p1,p2⟩;simp only at p1 p2;simp -implicitDefEqProofs (disch:=omega) only[go_sem]
  with_reducible refine aA (fun hb=> ?_) (fun hb=> ?_)<;>have h:=hb<;>(try simp only[wf_preprocess] at h)<;>simp -implicitDefEqProofs (disch:=omega) only[go_sem,hb]<;>(repeat(with_reducible refine And.intro ?_ ?_;focus first|omega|rfl|assumption|exact⟨_,rfl,rfl⟩|(simp;omega)|(simp;done)))
  ·have hi:i<x.aj.length:=by omega
   have hsz':=yG hi hsz;rw[F5 hi] at p2
   (repeat(with_reducible refine And.intro ?_ ?_;focus first|omega|rfl|assumption|exact⟨_,rfl,rfl⟩|(simp;omega)|(simp;done)))
   refine au (ih x.aj[i] (by have:=ah.Ju hi;omega) (by omega)) ?_;simp -implicitDefEqProofs (disch:=omega) only[go_sem]<;>(repeat(with_reducible refine And.intro ?_ ?_;focus first|omega|rfl|assumption|exact⟨_,rfl,rfl⟩|(simp;omega)|(simp;done)));rw[show(c:Int)+(jT x.aj[i]:Int)=((c+jT x.aj[i]:Nat):Int) by omega];exact dD 1 (by decide) (i+1,c+jT x.aj[i]) (by simp only;omega) rfl rfl rfl rfl ⟨by simp only;omega,by simp only;omega⟩
  ·have hi:i=x.aj.length:=by omega
   rw[hi,List.drop_length,l8] at p2;exact int_eq (by omega)
theorem Pg(x:ah)(hsz:x.sz<=67108864):aG prog 165 [x.v] (.c (.d (.i .i64 (jT x)))):=CZ _ x (Nat.lt_succ_self _) hsz
theorem xD(x:ah)(hsz:x.sz<=67108864):aG prog 95 [x.v] (.c (.d (.b (iK x)))):=fun S=>by
 refine zcx [.tmp 2] func95 ntmps95 ?_;simp -implicitDefEqProofs (disch:=omega) only[go_sem];refine au (Ro x hsz) ?_;simp -implicitDefEqProofs (disch:=omega) only[go_sem]<;>(repeat(with_reducible refine And.intro ?_ ?_;focus first|omega|rfl|assumption|exact⟨_,rfl,rfl⟩|(simp;omega)|(simp;done)))
 with_reducible refine aA (fun hb=> ?_) (fun hb=> ?_)<;>have h:=hb<;>(try simp only[wf_preprocess] at h)<;>simp -implicitDefEqProofs (disch:=omega) only[go_sem,hb]<;>(repeat(with_reducible refine And.intro ?_ ?_;focus first|omega|rfl|assumption|exact⟨_,rfl,rfl⟩|(simp;omega)|(simp;done)))
 ·have hf:=h;refine au (MO x hsz) ?_;simp -implicitDefEqProofs (disch:=omega) only[go_sem]<;>(repeat(with_reducible refine And.intro ?_ ?_;focus first|omega|rfl|assumption|exact⟨_,rfl,rfl⟩|(simp;omega)|(simp;done)))
  with_reducible refine aA (fun hb=> ?_) (fun hb=> ?_)<;>have h:=hb<;>(try simp only[wf_preprocess] at h)<;>simp -implicitDefEqProofs (disch:=omega) only[go_sem,hb]<;>(repeat(with_reducible refine And.intro ?_ ?_;focus first|omega|rfl|assumption|exact⟨_,rfl,rfl⟩|(simp;omega)|(simp;done)))
  ·refine au (Pg x hsz) ?_;simp -implicitDefEqProofs (disch:=omega) only[go_sem]<;>(repeat(with_reducible refine And.intro ?_ ?_;focus first|omega|rfl|assumption|exact⟨_,rfl,rfl⟩|(simp;omega)|(simp;done)));refine aI ?_;unfold iK;rw[hf,Bool.true_and];exact decide_eq_decide.2 (by omega)
  ·refine aI ?_;unfold iK;rw[hf,Bool.true_and];exact(decide_eq_false (by omega)).symm
 ·refine aI ?_;unfold iK;rw[h,Bool.false_and]
theorem Jw:∀n:Nat,∀x:ah,SizeOf.sizeOf x<n->∀l:Int,0<=l->l<=1073741824->x.sz<=67108864->aG prog 146 [x.v,.c (.d (.i .i64 l))] (.c (.d (.i .i64 (lH l (jT x)))))
 |0=>fun x h=>by omega
 |n+1=>by
  have ih:=Jw n;intro x hn l h0 h1 hsz S;have hts:=Bj hsz;have hcn:=O8 x;refine zcx [.tmp 4] func146 ntmps146 ?_;simp -implicitDefEqProofs (disch:=omega) only[go_sem]
  refine aZ (ι:=Nat×Int) zmx rfl [1,2,5] (fun y=>[.c (.d (.i .i64 y.2)),.c (.ptr (0,0) 0),.c (.d (.i .i64 y.1))]) (fun y=>[.box [.d (.s x.aQ),.d (.sl (x.aj.map ah.enc))]]::S)
   (fun y=>y.1<=x.aj.length/\ -1<=y.2/\y.2<=1073741824/\(0<=y.2->lH l (jT x)=lH y.2 (l8 (x.aj.drop y.1)))/\(y.2<0->lH l (jT x)= -1)) (fun y=>x.aj.length-y.1) (0,l-1) rfl rfl ⟨Nat.zero_le _,by simp only;omega,by simp only;omega,fun h=> ?_,fun h=> ?_⟩ ?_
  ·simp only[List.drop_zero] at h ⊢;unfold lH;rw[hcn];split<;>split<;>omega
  ·simp only at h;exact EZ (by omega)
  rintro⟨i,c⟩ ⟨p1,p2,p3,p4,p5⟩;simp only at p1 p2 p3 p4 p5;simp -implicitDefEqProofs (disch:=omega) only[go_sem]
  with_reducible refine aA (fun hb=> ?_) (fun hb=> ?_)<;>have h:=hb<;>(try simp only[wf_preprocess] at h)<;>simp -implicitDefEqProofs (disch:=omega) only[go_sem,hb]<;>(repeat(with_reducible refine And.intro ?_ ?_;focus first|omega|rfl|assumption|exact⟨_,rfl,rfl⟩|(simp;omega)|(simp;done)))
  ·have hi:i<x.aj.length:=by omega
   with_reducible refine aA (fun hb=> ?_) (fun hb=> ?_)<;>have h:=hb<;>(try simp only[wf_preprocess] at h)<;>simp -implicitDefEqProofs (disch:=omega) only[go_sem,hb]<;>(repeat(with_reducible refine And.intro ?_ ?_;focus first|omega|rfl|assumption|exact⟨_,rfl,rfl⟩|(simp;omega)|(simp;done)))
   ·have hsz':=yG hi hsz;have p6:=p4 h;rw[F5 hi] at p6
    (repeat(with_reducible refine And.intro ?_ ?_;focus first|omega|rfl|assumption|exact⟨_,rfl,rfl⟩|(simp;omega)|(simp;done)))
    refine au (ih x.aj[i] (by have:=ah.Ju hi;omega) c (by omega) (by omega) (by omega)) ?_;simp -implicitDefEqProofs (disch:=omega) only[go_sem]<;>(repeat(with_reducible refine And.intro ?_ ?_;focus first|omega|rfl|assumption|exact⟨_,rfl,rfl⟩|(simp;omega)|(simp;done)));refine cK (i+1,lH c _) (by simp only;omega) rfl rfl ⟨by simp only;omega,?_,?_,fun h=> ?_,fun h=> ?_⟩
    ·simp only;unfold lH;split<;>omega
    ·simp only;unfold lH;split<;>omega
    ·simp only at h ⊢;rw[p6];have:=EY (l:=c) (a:=jT x.aj[i]) (by omega);rw[this.1];unfold lH;split<;>split<;>omega
    ·simp only at h ⊢;rw[p6];have:=BZ h;exact EZ (by omega)
   ·have hc:c= -1:=by omega
    rw[p5 (by omega),hc]
  ·have hi:i=x.aj.length:=by omega
   by_cases hc:0<=c
   ·rw[p4 hc,hi,List.drop_length,l8,OJ (by omega)];exact int_eq (by simp)
   ·rw[p5 (by omega)];exact int_eq (by omega)
theorem Yy(x:ah)(l:Int)(h0:0<=l)(h1:l<=1073741824)(hsz:x.sz<=67108864):aG prog 146 [x.v,.c (.d (.i .i64 l))] (.c (.d (.i .i64 (lH l (jT x))))):=Jw _ x (Nat.lt_succ_self _) l h0 h1 hsz
theorem Jy:∀n:Nat,∀x:ah,SizeOf.sizeOf x<n->x.sz<=67108864->aG prog 147 [x.v] (.c (.d (.b (iM x))))
 |0=>fun x h=>by omega
 |n+1=>by
  have ih:=Jy n;intro x hn hsz S;have hts:=Bj hsz;have hf:=zn x;refine zcx [.tmp 2] func147 ntmps147 ?_;simp -implicitDefEqProofs (disch:=omega) only[go_sem]
  with_reducible refine aA (fun hb=> ?_) (fun hb=> ?_)<;>have h:=hb<;>(try simp only[wf_preprocess] at h)<;>simp -implicitDefEqProofs (disch:=omega) only[go_sem,hb]<;>(repeat(with_reducible refine And.intro ?_ ?_;focus first|omega|rfl|assumption|exact⟨_,rfl,rfl⟩|(simp;omega)|(simp;done)))
  ·rw[if_neg h] at hf;refine au (Vk x.aQ (by omega)) ?_;simp -implicitDefEqProofs (disch:=omega) only[go_sem]<;>(repeat(with_reducible refine And.intro ?_ ?_;focus first|omega|rfl|assumption|exact⟨_,rfl,rfl⟩|(simp;omega)|(simp;done)))
   with_reducible refine aA (fun hb=> ?_) (fun hb=> ?_)<;>have h:=hb<;>(try simp only[wf_preprocess] at h)<;>simp -implicitDefEqProofs (disch:=omega) only[go_sem,hb]<;>(repeat(with_reducible refine And.intro ?_ ?_;focus first|omega|rfl|assumption|exact⟨_,rfl,rfl⟩|(simp;omega)|(simp;done)))
   ·rw[hf,h,Bool.true_and];exact aI (decide_eq_decide.2 (by omega))
   ·rw[hf,h,Bool.false_and]
  rw[if_pos h] at hf
  refine aZ (ι:=Nat) zmx rfl [1,3] (fun y=>[.c (.ptr (0,0) 0),.c (.d (.i .i64 y))]) (fun y=>[.box [.d (.s x.aQ),.d (.sl (x.aj.map ah.enc))]]::S)
   (fun y=>y<=x.aj.length/\iM x=iY (x.aj.drop y)) (fun y=>x.aj.length-y) 0 rfl rfl ⟨Nat.zero_le _,hf⟩ ?_
  rintro i ⟨p1,p2⟩;simp -implicitDefEqProofs (disch:=omega) only[go_sem]
  with_reducible refine aA (fun hb=> ?_) (fun hb=> ?_)<;>have h:=hb<;>(try simp only[wf_preprocess] at h)<;>simp -implicitDefEqProofs (disch:=omega) only[go_sem,hb]<;>(repeat(with_reducible refine And.intro ?_ ?_;focus first|omega|rfl|assumption|exact⟨_,rfl,rfl⟩|(simp;omega)|(simp;done)))
  ·have hi:i<x.aj.length:=by omega
   have hsz':=yG hi hsz;rw[Rn hi] at p2
   (repeat(with_reducible refine And.intro ?_ ?_;focus first|omega|rfl|assumption|exact⟨_,rfl,rfl⟩|(simp;omega)|(simp;done)))
   refine au (ih x.aj[i] (by have:=ah.Ju hi;omega) (by omega)) ?_;simp -implicitDefEqProofs (disch:=omega) only[go_sem]<;>(repeat(with_reducible refine And.intro ?_ ?_;focus first|omega|rfl|assumption|exact⟨_,rfl,rfl⟩|(simp;omega)|(simp;done)))
   with_reducible refine aA (fun hb=> ?_) (fun hb=> ?_)<;>have h:=hb<;>(try simp only[wf_preprocess] at h)<;>simp -implicitDefEqProofs (disch:=omega) only[go_sem,hb]<;>(repeat(with_reducible refine And.intro ?_ ?_;focus first|omega|rfl|assumption|exact⟨_,rfl,rfl⟩|(simp;omega)|(simp;done)))
   ·rw[p2,h,Bool.false_and]
   ·exact cK (i+1) (by omega) rfl rfl ⟨by omega,by rw[p2,h,Bool.true_and]⟩
  ·have hi:i=x.aj.length:=by omega
   rw[hi,List.drop_length,iY] at p2;rw[p2]
theorem Yz(x:ah)(hsz:x.sz<=67108864):aG prog 147 [x.v] (.c (.d (.b (iM x)))):=Jy _ x (Nat.lt_succ_self _) hsz
theorem Bn:∀n:Nat,∀x:ah,SizeOf.sizeOf x<n->x.sz<=67108864->aG prog 148 [x.v] (.c (.d (.i .i64 (kS x))))
 |0=>fun x h=>by omega
 |n+1=>by
  have ih:=Bn n;intro x hn hsz S;have hts:=Bj hsz;have hd:=LA x;have hd1:=Ar x;have hd2:=GL hsz;refine zcx [.tmp 2] func148 ntmps148 ?_;simp -implicitDefEqProofs (disch:=omega) only[go_sem]
  with_reducible refine aA (fun hb=> ?_) (fun hb=> ?_)<;>have h:=hb<;>(try simp only[wf_preprocess] at h)<;>simp -implicitDefEqProofs (disch:=omega) only[go_sem,hb]<;>(repeat(with_reducible refine And.intro ?_ ?_;focus first|omega|rfl|assumption|exact⟨_,rfl,rfl⟩|(simp;omega)|(simp;done)))
  ·rw[if_neg h] at hd;rw[hd];rfl
  rw[if_pos h] at hd
  refine aZ (ι:=Nat×Nat) zmx rfl [1,3,4] (fun y=>[.c (.ptr (0,0) 0),.c (.d (.i .i64 y.2)),.c (.d (.i .i64 y.1))]) (fun y=>[.box [.d (.s x.aQ),.d (.sl (x.aj.map ah.enc))]]::S)
   (fun y=>y.1<=x.aj.length/\kS x=max y.2 (nu (x.aj.drop y.1))+1) (fun y=>x.aj.length-y.1) (0,0) rfl rfl ⟨Nat.zero_le _,by simp[hd]⟩ ?_
  rintro⟨i,c⟩ ⟨p1,p2⟩;simp only at p1 p2;simp -implicitDefEqProofs (disch:=omega) only[go_sem]
  with_reducible refine aA (fun hb=> ?_) (fun hb=> ?_)<;>have h:=hb<;>(try simp only[wf_preprocess] at h)<;>simp -implicitDefEqProofs (disch:=omega) only[go_sem,hb]<;>(repeat(with_reducible refine And.intro ?_ ?_;focus first|omega|rfl|assumption|exact⟨_,rfl,rfl⟩|(simp;omega)|(simp;done)))
  ·have hi:i<x.aj.length:=by omega
   have hsz':=yG hi hsz;rw[Ed hi] at p2
   (repeat(with_reducible refine And.intro ?_ ?_;focus first|omega|rfl|assumption|exact⟨_,rfl,rfl⟩|(simp;omega)|(simp;done)))
   refine au (ih x.aj[i] (by have:=ah.Ju hi;omega) (by omega)) ?_;simp -implicitDefEqProofs (disch:=omega) only[go_sem]<;>(repeat(with_reducible refine And.intro ?_ ?_;focus first|omega|rfl|assumption|exact⟨_,rfl,rfl⟩|(simp;omega)|(simp;done)));refine au (OZ _ _) ?_;simp -implicitDefEqProofs (disch:=omega) only[go_sem]<;>(repeat(with_reducible refine And.intro ?_ ?_;focus first|omega|rfl|assumption|exact⟨_,rfl,rfl⟩|(simp;omega)|(simp;done)));rw[show max (c:Int) ((kS x.aj[i]:Int))=((max c (kS x.aj[i]):Nat):Int) by omega];exact cK (i+1,max c (kS x.aj[i])) (by simp only;omega) rfl rfl ⟨by simp only;omega,by simp only;omega⟩
  ·have hi:i=x.aj.length:=by omega
   rw[hi,List.drop_length,nu] at p2
   (repeat(with_reducible refine And.intro ?_ ?_;focus first|omega|rfl|assumption|exact⟨_,rfl,rfl⟩|(simp;omega)|(simp;done)))
   exact int_eq (by omega)
theorem MP(x:ah)(hsz:x.sz<=67108864):aG prog 148 [x.v] (.c (.d (.i .i64 (kS x)))):=Bn _ x (Nat.lt_succ_self _) hsz
theorem xE(x:ah)(hsz:x.sz<=67108864):aG prog 68 [x.v] (.c (.d (.b (iK x)))):=fun S=>by
 refine zcx [.tmp 2] func68 ntmps68 ?_;simp -implicitDefEqProofs (disch:=omega) only[go_sem];refine au (Yy x 900 (by omega) (by omega) hsz) ?_;simp -implicitDefEqProofs (disch:=omega) only[go_sem]<;>(repeat(with_reducible refine And.intro ?_ ?_;focus first|omega|rfl|assumption|exact⟨_,rfl,rfl⟩|(simp;omega)|(simp;done)))
 with_reducible refine aA (fun hb=> ?_) (fun hb=> ?_)<;>have h:=hb<;>(try simp only[wf_preprocess] at h)<;>simp -implicitDefEqProofs (disch:=omega) only[go_sem,hb]<;>(repeat(with_reducible refine And.intro ?_ ?_;focus first|omega|rfl|assumption|exact⟨_,rfl,rfl⟩|(simp;omega)|(simp;done)))
 ·have h1:=(EY (l:=900) (a:=jT x) (by omega)).2;refine au (Yz x hsz) ?_;simp -implicitDefEqProofs (disch:=omega) only[go_sem]<;>(repeat(with_reducible refine And.intro ?_ ?_;focus first|omega|rfl|assumption|exact⟨_,rfl,rfl⟩|(simp;omega)|(simp;done)))
  with_reducible refine aA (fun hb=> ?_) (fun hb=> ?_)<;>have h:=hb<;>(try simp only[wf_preprocess] at h)<;>simp -implicitDefEqProofs (disch:=omega) only[go_sem,hb]<;>(repeat(with_reducible refine And.intro ?_ ?_;focus first|omega|rfl|assumption|exact⟨_,rfl,rfl⟩|(simp;omega)|(simp;done)))
  ·have hf:=h;refine au (MP x hsz) ?_;simp -implicitDefEqProofs (disch:=omega) only[go_sem]<;>(repeat(with_reducible refine And.intro ?_ ?_;focus first|omega|rfl|assumption|exact⟨_,rfl,rfl⟩|(simp;omega)|(simp;done)));refine aI ?_;unfold iK;rw[hf,Bool.true_and];exact decide_eq_decide.2 (by omega)
  ·refine aI ?_;unfold iK;rw[h,Bool.false_and]
 ·have h1:=BZ (l:=900) (a:=jT x) (by omega);refine aI ?_;unfold iK;rw[decide_eq_false (by omega),Bool.and_false]
def lx(l:List ah)(n:Nat):List (List D):=eP (l.map ah.enc) n
def jw(x:ah):Nat:=p9 x.enc
def iB(l:List ah):Nat:=nZ (l.map ah.enc)
theorem kD(x:ah)(n:Nat):dS x.enc n=[.s x.aQ,.ol n (lx x.aj (n+1))]:=by
 rw[ah.aB];simp only[dS,lJ,oV,Nat.add_zero,lx]
theorem zW(s:List UInt8)(n:Nat):dS (bn s).enc n=[.s s,.ol n []]:=by rw[kD];rfl
theorem ad9(x:ah):jw x=iB x.aj+1:=by
 unfold jw iB;rw[ah.aB];simp only[p9,oV];omega
theorem mY(s:List UInt8):jw (bn s)=1:=by rw[ad9];rfl
theorem qw(n:Nat):lx [] n=[]:=rfl
theorem nM(x:ah)(l:List ah)(n:Nat):lx (x::l) n=dS x.enc n::lx l (n+jw x):=rfl
theorem kE(a b:List ah)(n:Nat):lx (a++b) n=lx a n++lx b (n+iB a):=by unfold lx iB;rw[List.map_append,oW]
theorem YA:iB []=0:=rfl
theorem Vl(x:ah)(l:List ah):iB (x::l)=jw x+iB l:=rfl
theorem gL(l:List ah)(n:Nat):(lx l n).length=l.length:=by unfold lx;rw[kT,List.length_map]
theorem kY{l:List ah}{n:Nat}:∀r∈lx l n,r.length=2:=Ci fun r hr=>by
 obtain⟨z,_,rfl⟩:=List.mem_map.1 hr;exact z.bI
theorem Fj{l:List ah}{i:Nat}(hi:i<l.length)(n:Nat):lx (l.take i) n++[dS l[i].enc (n+iB (l.take i))]=lx (l.take (i+1)) n:=by
 rw[List.take_succ_eq_append_getElem hi,kE];rfl
theorem Ph{l:List ah}{i:Nat}(hi:i<l.length)(n:Nat):lx (l.take i) n++[[.s l[i].aQ,.ol (n+iB (l.take i)) (lx l[i].aj (n+iB (l.take i)+1))]]=lx (l.take (i+1)) n:=by
 rw[<-Fj hi,kD]
theorem Cm{base l:List ah}{i:Nat}(hi:i<l.length)(q:Nat):lx (base++l.take i) q++[[.s l[i].aQ,.ol (q+iB (base++l.take i)) (lx l[i].aj (q+iB (base++l.take i)+1))]]=lx (base++l.take (i+1)) q:=by
 rw[List.take_succ_eq_append_getElem hi,<-List.append_assoc,kE (base++l.take i),nM,qw,kD]
theorem iq{l:List ah}:∀r∈l.map ah.enc,r.length=2:=fun r hr=>by
 obtain⟨z,_,rfl⟩:=List.mem_map.1 hr;exact z.bI
theorem Av{cs cs':List C}(hl:cs'.length=cs.length)(h:∀(j:Nat)(x y:C),cs[j]? =some x->cs'[j]? =some y->∀w σ S β v,fK w σ S β x v->fK w σ S β y v):Less (.agg cs) (.agg cs'):=by
 rintro w σ S β v ⟨a,ha,hc⟩;refine⟨a,ha,hl.trans hc.1,fun j y hy=> ?_⟩
 have hj:j<cs.length:=by rw[<-hl];exact(List.getElem?_eq_some_iff.1 hy).1
 obtain⟨v,h1,h2,h3⟩:=hc.2 j _ (List.getElem?_eq_getElem hj);exact⟨v,h1,h j _ y (List.getElem?_eq_getElem hj) hy w σ S β v h2,h3⟩
theorem afK{w:World}{σ:Nat->Nat}{S:Store}{β:Hs}{v:Value}(n:Nat)(h:fK w σ S β (.bA []) v):fK w σ S β (.d (.ol n [])) v:=by
 obtain⟨hd,ad,m,hval⟩:=h
 have hm:m=0:=by rw[hval] at hd;cases hd<;>rfl
 subst hm;rw[hval];exact .oh _ _ _
theorem KH(s:List UInt8)(n:Nat):Less (.agg [.d (.s s),.bA []]) (.agg [.d (.s s),.d (.ol n [])]):=Av rfl fun j x y hx hy w σ S β v hv=>by
 match j,hx,hy with
 |0,hx,hy=>cases hx;cases hy;exact hv
 |1,hx,hy=>cases hx;cases hy;exact afK _ hv
 |j+2,hx,hy=>simp at hx
theorem aea(s:List UInt8)(n:Nat)(es:List (List D)):Less (.agg [.d (.s s),.jm n es]) (.agg [.d (.s s),.d (.ol n es)]):=Av rfl fun j x y hx hy w σ S β v hv=>by
 match j,hx,hy with
 |0,hx,hy=>cases hx;cases hy;exact hv
 |1,hx,hy=>cases hx;cases hy;exact hv.1
 |j+2,hx,hy=>simp at hx
theorem Rp(s:List UInt8):aG prog 97 [.c (.d (.s s))] (.agg [.d (.s s),.bA []]):=fun S=>by
 refine zcx [.cell 2 39] func97 ntmps97 ?_;simp -implicitDefEqProofs (disch:=omega) only[go_sem]
theorem dR(s:List UInt8)(n:Nat):aG prog 97 [.c (.d (.s s))] (.agg [.d (.s s),.d (.ol n [])]):=aG.less (Rp s) (KH s n)
theorem mP(d:D):aG prog 96 [.c (.d d)] (.agg [.d (.s []),.d d]):=fun S=>by
 refine zcx [.cell 2 39] func96 ntmps96 ?_;simp -implicitDefEqProofs (disch:=omega) only[go_sem]
theorem Rq(n:Nat)(es:List (List D)):aG prog 96 [.c (.jm n es)] (.agg [.d (.s []),.jm n es]):=fun S=>by
 refine zcx [.cell 2 39] func96 ntmps96 ?_;simp -implicitDefEqProofs (disch:=omega) only[go_sem]
theorem uX(n:Nat)(es:List (List D)):aG prog 96 [.c (.jm n es)] (.agg [.d (.s []),.d (.ol n es)]):=aG.less (Rq n es) (aea [] n es)
theorem jU(l j:Nat)(es:List (List D))(S:Store):bD prog 96 [.c (.bG (l,j) es)] S (fun r S'=>r=.agg [.d (.s []),.bG (l,j) es]/\S'=S):=by
 refine zcx [.cell 2 39] func96 ntmps96 ?_;simp -implicitDefEqProofs (disch:=omega) only[go_sem]
theorem xG(xs:List (List UInt8))(hx:xs.length<=1073741824)(n q:Nat):aG prog 166 [.c (.d (.sl (xs.map encS)))] (.c (.d (.ol n (lx (aP xs) q)))):=fun S=>by
 refine mX (n) (rs:=[.tmp 2]) zmx func166 ntmps166 rfl rfl rfl rfl rfl ?_;simp -implicitDefEqProofs (disch:=omega) only[go_sem]
 (repeat(with_reducible refine And.intro ?_ ?_;focus first|omega|rfl|assumption|exact⟨_,rfl,rfl⟩|(simp;omega)|(simp;done)))
 refine qB n 3 2 [] (.inl rfl) (by simp) ?_
 refine aZ (ι:=Nat) zmx rfl [3,7,8,9] (fun i=>[.c (.bG (0,1) (lx ((aP xs).take i) q)),.c (.d (.sl (xs.map encS))),.c (.d (.i .i64 xs.length)),.c (.d (.i .i64 i))]) (fun i=>[.seed n,.eD n 2 (lx ((aP xs).take i) q)]::S)
  (fun i=>i<=xs.length) (fun i=>xs.length-i) 0 rfl rfl (Nat.zero_le _) ?_
 intro i hi;simp -implicitDefEqProofs (disch:=omega) only[go_sem]
 with_reducible refine aA (fun hb=> ?_) (fun hb=> ?_)<;>have h:=hb<;>(try simp only[wf_preprocess] at h)<;>simp -implicitDefEqProofs (disch:=omega) only[go_sem,hb]<;>(repeat(with_reducible refine And.intro ?_ ?_;focus first|omega|rfl|assumption|exact⟨_,rfl,rfl⟩|(simp;omega)|(simp;done)))
 ·have hi':i<xs.length:=by omega
  have hw:i<(aP xs).length:=by rw[kC];exact hi'
  have hg:(aP xs)[i]=bn xs[i]:=by simp[aP]
  have hl:(lx ((aP xs).take i) q).length<=i:=by rw[gL];exact List.length_take_le _ _
  (repeat(with_reducible refine And.intro ?_ ?_;focus first|omega|rfl|assumption|exact⟨_,rfl,rfl⟩|(simp;omega)|(simp;done)))
  refine au (dR xs[i] (q+iB ((aP xs).take i))) ?_;simp -implicitDefEqProofs (disch:=omega) only[go_sem]
  (repeat(with_reducible refine And.intro ?_ ?_;focus first|omega|rfl|assumption|exact⟨_,rfl,rfl⟩|(simp;omega)|(simp;done)))
  have hs:=Fj hw q;rw[hg,zW] at hs;rw[hs];exact cK (i+1) (by omega) rfl rfl (by omega)
 ·have hi':i=(aP xs).length:=by rw[kC];omega
  rw[hi',List.take_length]
theorem iE(xs:List (List UInt8))(hx:xs.length<=1073741824)(n:Nat):aG prog 99 [.c (.d (.sl (xs.map encS)))] (.agg [.d (.s []),.d (.ol n (lx (aP xs) (n+1)))]):=fun S=>by
 refine zcx [.cell 2 39] func99 ntmps99 ?_;simp -implicitDefEqProofs (disch:=omega) only[go_sem];refine au (xG xs hx n (n+1)) ?_;simp -implicitDefEqProofs (disch:=omega) only[go_sem];refine au (mP _) ?_;simp -implicitDefEqProofs (disch:=omega) only[go_sem]
theorem Cn:∀N:Nat,(∀x:ak,SizeOf.sizeOf x<N->∀n:Nat,formed x=true->x.sz<=4194304->aG prog 98 [x.v] (.agg [.d (.s (dK x).aQ),.d (.ol n (lx (dK x).aj (n+1)))]))/\
 (∀xs:List ak,SizeOf.sizeOf xs<N->∀n q:Nat,gQ xs=true->xs.length<=4194304->(∀t∈xs,t.sz<=4194304)->aG prog 150 [.c (.d (.sl (xs.map ak.enc)))] (.c (.d (.ol n (lx (xs.map dK) q)))))
 |0=>⟨fun x h=>by omega,fun x h=>by omega⟩
 |N+1=>by
  obtain⟨ih,mo⟩:=Cn N;refine⟨fun x hn n hf hsz=> ?_,fun xs hn n q hf hlen hsz=> ?_⟩
  ·have je:=ak.gZ x;have hts:=zQ hsz;have hx:=Yp x;rw[wQ,Bool.and_eq_true] at hf;have hfi:=iX hf.1
   have hall:∀t∈x.fArgs,t.sz<=4194304:=fun t ht=>by
    obtain⟨i,hi,e⟩:=List.getElem_of_mem ht;rw[<-e];exact(rD hi hsz).1
   intro S;refine yx (n) 1 (rs:=[.cell 2 39]) zmx func98 ntmps98 rfl rfl rfl rfl rfl ?_;simp -implicitDefEqProofs (disch:=omega) only[go_sem]
   with_reducible refine aA (fun hb=> ?_) (fun hb=> ?_)<;>have h:=hb<;>(try simp only[wf_preprocess] at h)<;>simp -implicitDefEqProofs (disch:=omega) only[go_sem,hb]<;>(repeat(with_reducible refine And.intro ?_ ?_;focus first|omega|rfl|assumption|exact⟨_,rfl,rfl⟩|(simp;omega)|(simp;done)))
   ·rw[if_pos h] at hx;rw[hx]
    (repeat(with_reducible refine And.intro ?_ ?_;focus first|omega|rfl|assumption|exact⟨_,rfl,rfl⟩|(simp;omega)|(simp;done)))
    refine au (dR _ n) ?_;simp -implicitDefEqProofs (disch:=omega) only[go_sem];rfl
   have k1:=h;rw[if_neg h] at hx
   with_reducible refine aA (fun hb=> ?_) (fun hb=> ?_)<;>have h:=hb<;>(try simp only[wf_preprocess] at h)<;>simp -implicitDefEqProofs (disch:=omega) only[go_sem,hb]<;>(repeat(with_reducible refine And.intro ?_ ?_;focus first|omega|rfl|assumption|exact⟨_,rfl,rfl⟩|(simp;omega)|(simp;done)))
   ·rw[if_pos h] at hx;rw[hx];refine au (dR _ (n+1)) ?_;simp -implicitDefEqProofs (disch:=omega) only[go_sem];refine au (dR _ (n+1+1)) ?_;simp -implicitDefEqProofs (disch:=omega) only[go_sem];refine au (uX _ _) ?_;simp -implicitDefEqProofs (disch:=omega) only[go_sem];rfl
   have k4:=h;rw[if_neg h] at hx
   with_reducible refine aA (fun hb=> ?_) (fun hb=> ?_)<;>have h:=hb<;>(try simp only[wf_preprocess] at h)<;>simp -implicitDefEqProofs (disch:=omega) only[go_sem,hb]<;>(repeat(with_reducible refine And.intro ?_ ?_;focus first|omega|rfl|assumption|exact⟨_,rfl,rfl⟩|(simp;omega)|(simp;done)))
   ·have hlen:x.fArgs.length=1:=by omega
    obtain⟨a,ha⟩:=List.length_eq_one_iff.1 hlen
    have ha0:x.fArgs[0]'(by omega)=a:=by simp[ha]
    rw[if_neg (by omega),if_pos h,ha] at hx;have hfa:formed a=true:=wo.1 hf.2 a (by rw[ha];simp);have hsa:a.sz<=4194304:=hall a (by rw[ha];simp)
    have hla:SizeOf.sizeOf a<N:=by
     have:=List.sizeOf_lt_of_mem (show a∈x.fArgs by rw[ha];simp);omega
    rw[hx];refine au (dR _ (n+1)) ?_;simp -implicitDefEqProofs (disch:=omega) only[go_sem];refine au (dR _ (n+1+1)) ?_;simp -implicitDefEqProofs (disch:=omega) only[go_sem,ha,List.getD_cons_zero]
    (repeat(with_reducible refine And.intro ?_ ?_;focus first|omega|rfl|assumption|exact⟨_,rfl,rfl⟩|(simp;omega)|(simp;done)))
    refine au (ih a hla (n+1+1+1) hfa hsa) ?_;simp -implicitDefEqProofs (disch:=omega) only[go_sem];refine au (uX _ _) ?_;simp -implicitDefEqProofs (disch:=omega) only[go_sem];simp only[eu,dX,List.cons_append,List.nil_append,List.map_cons,List.map_nil,nM,qw,zW,mY,kD,kP,kQ,fT]
   have k3:=h
   with_reducible refine aA (fun hb=> ?_) (fun hb=> ?_)<;>have h:=hb<;>(try simp only[wf_preprocess] at h)<;>simp -implicitDefEqProofs (disch:=omega) only[go_sem,hb]<;>(repeat(with_reducible refine And.intro ?_ ?_;focus first|omega|rfl|assumption|exact⟨_,rfl,rfl⟩|(simp;omega)|(simp;done)))
   ·rw[if_pos ⟨by omega,by omega⟩] at hx;rw[hx];refine au (dR _ n) ?_;simp -implicitDefEqProofs (disch:=omega) only[go_sem];rfl
   rw[if_neg (by omega),if_neg k3] at hx;rw[hx];refine au (dR _ (n+1)) ?_;simp -implicitDefEqProofs (disch:=omega) only[go_sem];refine au (mo x.fArgs (by omega) 0 (n+1+1) hf.2 hts.1 hall) ?_;simp -implicitDefEqProofs (disch:=omega) only[go_sem]
   have hl:(lx (x.fArgs.map dK) (n+1+1)).length=x.fArgs.length:=by rw[gL,List.length_map]
   have hr:=kY (l:=x.fArgs.map dK) (n:=n+1+1)
   (repeat(with_reducible refine And.intro ?_ ?_;focus first|omega|rfl|assumption|exact⟨_,rfl,rfl⟩|(simp;omega)|(simp;done)))
   refine au (mP _) ?_;simp -implicitDefEqProofs (disch:=omega) only[go_sem];simp only[eu,dX,List.cons_append,List.nil_append,nM,qw,zW,mY]
  ·have Co:=fun(i:Nat) (hi:i<xs.length)=>Ph (l:=xs.map dK) (i:=i) (by rw[List.length_map];exact hi) q;intro S;refine mX (n) (rs:=[.tmp 2]) zmx func150 ntmps150 rfl rfl rfl rfl rfl ?_;simp -implicitDefEqProofs (disch:=omega) only[go_sem]
   (repeat(with_reducible refine And.intro ?_ ?_;focus first|omega|rfl|assumption|exact⟨_,rfl,rfl⟩|(simp;omega)|(simp;done)))
   refine qB n 3 2 [] (.inl rfl) (by simp) ?_
   refine aZ (ι:=Nat) zmx rfl [3,7,8,9] (fun i=>[.c (.bG (0,1) (lx ((xs.map dK).take i) q)),.c (.d (.sl (xs.map ak.enc))),.c (.d (.i .i64 xs.length)),.c (.d (.i .i64 i))]) (fun i=>[.seed n,.eD n 2 (lx ((xs.map dK).take i) q)]::S)
    (fun i=>i<=xs.length) (fun i=>xs.length-i) 0 rfl rfl (Nat.zero_le _) ?_
   intro i hi;simp -implicitDefEqProofs (disch:=omega) only[go_sem]
   with_reducible refine aA (fun hb=> ?_) (fun hb=> ?_)<;>have h:=hb<;>(try simp only[wf_preprocess] at h)<;>simp -implicitDefEqProofs (disch:=omega) only[go_sem,hb]<;>(repeat(with_reducible refine And.intro ?_ ?_;focus first|omega|rfl|assumption|exact⟨_,rfl,rfl⟩|(simp;omega)|(simp;done)))
   ·have hi':i<xs.length:=by omega
    have hs:=Co i hi';rw[List.getElem_map] at hs
    have hl:(lx ((xs.map dK).take i) q).length<=i:=by rw[gL];exact List.length_take_le _ _
    (repeat(with_reducible refine And.intro ?_ ?_;focus first|omega|rfl|assumption|exact⟨_,rfl,rfl⟩|(simp;omega)|(simp;done)))
    refine au (ih xs[i] (by have:=List.sizeOf_lt_of_mem (List.getElem_mem hi');omega) (q+iB ((xs.map dK).take i)) (wo.1 hf _ (List.getElem_mem hi')) (hsz _ (List.getElem_mem hi'))) ?_;simp -implicitDefEqProofs (disch:=omega) only[go_sem]
    (repeat(with_reducible refine And.intro ?_ ?_;focus first|omega|rfl|assumption|exact⟨_,rfl,rfl⟩|(simp;omega)|(simp;done)))
    rw[hs];exact dD 2 (by decide) (i+1) (by omega) rfl rfl rfl rfl (by omega)
   ·have hi':i=(xs.map dK).length:=by rw[List.length_map];omega
    rw[hi',List.take_length]
theorem yA(x:ak)(n:Nat)(hf:formed x=true)(hsz:x.sz<=4194304):aG prog 98 [x.v] (.agg [.d (.s (dK x).aQ),.d (.ol n (lx (dK x).aj (n+1)))]):=(Cn _).1 x (Nat.lt_succ_self _) n hf hsz
theorem Aw(xs:List ak)(n q:Nat)(hf:gQ xs=true)(hlen:xs.length<=4194304)(hsz:∀t∈xs,t.sz<=4194304):aG prog 150 [.c (.d (.sl (xs.map ak.enc)))] (.c (.d (.ol n (lx (xs.map dK) q)))):=(Cn _).2 xs (Nat.lt_succ_self _) n q hf hlen hsz
theorem fP(s:List UInt8):(bn s).enc=[.s s,.sl []]:=by rw[ah.aB];rfl
theorem qb(l:List ah):(dA l).enc=[.s [],.sl (l.map ah.enc)]:=by rw[ah.aB];rfl
theorem l9{base l:List ah}{i:Nat}(hi:i<l.length):(base++l.take i).map ah.enc++[[.s l[i].aQ,.sl (l[i].aj.map ah.enc)]]=(base++l.take (i+1)).map ah.enc:=by
 rw[List.take_succ_eq_append_getElem hi,<-List.append_assoc,List.map_append (l₂:=[l[i]]),List.map_cons,List.map_nil,ah.aB]
theorem KI(s:List UInt8)(es:List (List D)):Less (.agg [.d (.s s),.bA es]) (.agg [.d (.s s),.d (.sl es)]):=Av rfl fun j x y hx hy w σ S β v hv=>by
 match j,hx,hy with
 |0,hx,hy=>cases hx;cases hy;exact hv
 |1,hx,hy=>cases hx;cases hy;exact hv.1
 |j+2,hx,hy=>simp at hx
theorem KJ(x:ah)(n:Nat):Less (.agg [.d (.s x.aQ),.d (.ol n (lx x.aj (n+1)))]) x.v:=by
 have h:=vL (r:=x.enc) (n:=n);rw[kD,ah.oq] at h;exact h
theorem Pj(s:List UInt8):aG prog 37 [.c (.d (.s s))] (.agg [.d (.s s),.bA []]):=fun S=>by
 refine zcx [.cell 2 39] func37 ntmps37 ?_;simp -implicitDefEqProofs (disch:=omega) only[go_sem]
theorem bQ(s:List UInt8):aG prog 37 [.c (.d (.s s))] (.agg [.d (.s s),.d (.sl [])]):=aG.less (Pj s) (KI s [])
theorem Rs(es:List (List D))(hes:∀e∈es,e.length=2)(hl:es.length<=1073741824):aG prog 36 [.c (.d (.sl es))] (.agg [.d (.s []),.d (.sl es)]):=fun S=>by
 refine zcx [.cell 2 39] func36 ntmps36 ?_;simp -implicitDefEqProofs (disch:=omega) only[go_sem];exact⟨hes,⟨_,rfl,rfl⟩,(fun y hy=>by cases hy),hl⟩
theorem o9(es:List (List D))(hes:∀e∈es,e.length=2)(hl:es.length<=1073741824)(bg:List Ab.Obj)(Ω:Store):bD prog 36 [.c (.d (.sl es))] (bg::Ω)
 (fun r S'=>r=.agg [.d (.s []),.bG (0,bg.length+1) es]/\S'=(bg++[.box [.d (.s []),.bG (0,bg.length+1) es],.tok 2 es])::Ω):=by
 refine DR (rs:=[.cell 2 39]) zmx func36 ntmps36 rfl rfl rfl rfl rfl ?_;simp -implicitDefEqProofs (disch:=omega) only[go_sem];exact⟨hes,⟨_,rfl,rfl⟩,(fun y hy=>by cases hy),hl⟩
theorem Ef(xs:List (List UInt8))(hx:xs.length<=1073741824):aG prog 102 [.c (.d (.sl (xs.map encS)))] (.c (.d (.sl ((aP xs).map ah.enc)))):=fun S=>by
 refine zcx [.tmp 2] func102 ntmps102 ?_;simp -implicitDefEqProofs (disch:=omega) only[go_sem]
 (repeat(with_reducible refine And.intro ?_ ?_;focus first|omega|rfl|assumption|exact⟨_,rfl,rfl⟩|(simp;omega)|(simp;done)))
 refine wM 3 2 [] rfl (by simp) ?_
 refine aZ (ι:=Nat) zmx rfl [0,3,4] (fun i=>[.c (.d (.sl (xs.map encS))),.c (.bG (0,0) (((aP xs).take i).map ah.enc)),.c (.d (.i .i64 i))]) (fun i=>[.tok 2 (((aP xs).take i).map ah.enc)]::S)
  (fun i=>i<=xs.length) (fun i=>xs.length-i) 0 rfl rfl (Nat.zero_le _) ?_
 intro i hi
 have hl:(((aP xs).take i).map ah.enc).length<=i:=by rw[List.length_map];exact List.length_take_le _ _
 simp -implicitDefEqProofs (disch:=omega) only[go_sem]
 with_reducible refine aA (fun hb=> ?_) (fun hb=> ?_)<;>have h:=hb<;>(try simp only[wf_preprocess] at h)<;>simp -implicitDefEqProofs (disch:=omega) only[go_sem,hb]<;>(repeat(with_reducible refine And.intro ?_ ?_;focus first|omega|rfl|assumption|exact⟨_,rfl,rfl⟩|(simp;omega)|(simp;done)))
 ·have hi':i<xs.length:=by omega
  have hs:=l9 (base:=[]) (l:=aP xs) (i:=i) (by rw[kC];exact hi')
  have hg:(aP xs)[i]'(by rw[kC];exact hi')=bn xs[i]:=by simp[aP]
  rw[hg] at hs;simp only[List.nil_append,kP,kQ,List.map_nil] at hs
  (repeat(with_reducible refine And.intro ?_ ?_;focus first|omega|rfl|assumption|exact⟨_,rfl,rfl⟩|(simp;omega)|(simp;done)))
  refine au (bQ xs[i]) ?_;simp -implicitDefEqProofs (disch:=omega) only[go_sem]
  (repeat(with_reducible refine And.intro ?_ ?_;focus first|omega|rfl|assumption|exact⟨_,rfl,rfl⟩|(simp;omega)|(simp;done)))
  rw[hs];exact cK (i+1) (by omega) rfl rfl (by omega)
 ·have hi':i=(aP xs).length:=by rw[kC];omega
  rw[hi',List.take_length]
theorem iZ(xs:List (List UInt8))(hx:xs.length<=1073741824):aG prog 40 [.c (.d (.sl (xs.map encS)))] (.agg [.d (.s []),.d (.sl ((aP xs).map ah.enc))]):=fun S=>by
 refine zcx [.cell 2 39] func40 ntmps40 ?_;simp -implicitDefEqProofs (disch:=omega) only[go_sem];refine au (Ef xs hx) ?_;simp -implicitDefEqProofs (disch:=omega) only[go_sem]
theorem Jz:∀N:Nat,(∀x:ak,SizeOf.sizeOf x<N->x.sz<=4194304->aG prog 38 [x.v] (.agg [.d (.s (dK x).aQ),.d (.sl ((dK x).aj.map ah.enc))]))
 |0=>fun x h=>by omega
 |N+1=>by
  have ih:=Jz N;intro x hn hsz;have je:=ak.gZ x;have hts:=zQ hsz;have hx:=Yp x
  have hall:∀t∈x.fArgs,t.sz<=4194304:=fun t ht=>by
   obtain⟨i,hi,e⟩:=List.getElem_of_mem ht;rw[<-e];exact(rD hi hsz).1
  intro S;refine zcx [.cell 2 39] func38 ntmps38 ?_;simp -implicitDefEqProofs (disch:=omega) only[go_sem]
  with_reducible refine aA (fun hb=> ?_) (fun hb=> ?_)<;>have h:=hb<;>(try simp only[wf_preprocess] at h)<;>simp -implicitDefEqProofs (disch:=omega) only[go_sem,hb]<;>(repeat(with_reducible refine And.intro ?_ ?_;focus first|omega|rfl|assumption|exact⟨_,rfl,rfl⟩|(simp;omega)|(simp;done)))
  ·rw[if_pos h] at hx;rw[hx]
   (repeat(with_reducible refine And.intro ?_ ?_;focus first|omega|rfl|assumption|exact⟨_,rfl,rfl⟩|(simp;omega)|(simp;done)))
   refine au (bQ _) ?_;simp -implicitDefEqProofs (disch:=omega) only[go_sem];rfl
  rw[if_neg h] at hx
  with_reducible refine aA (fun hb=> ?_) (fun hb=> ?_)<;>have h:=hb<;>(try simp only[wf_preprocess] at h)<;>simp -implicitDefEqProofs (disch:=omega) only[go_sem,hb]<;>(repeat(with_reducible refine And.intro ?_ ?_;focus first|omega|rfl|assumption|exact⟨_,rfl,rfl⟩|(simp;omega)|(simp;done)))
  ·rw[if_pos h] at hx;rw[hx];refine au (bQ _) ?_;simp -implicitDefEqProofs (disch:=omega) only[go_sem];refine au (bQ _) ?_;simp -implicitDefEqProofs (disch:=omega) only[go_sem];refine au (Rs _ (by simp) (by simp)) ?_;simp -implicitDefEqProofs (disch:=omega) only[go_sem];simp only[eu,dX,List.map_cons,List.map_nil,fP,Cg]
  rw[if_neg h] at hx
  have aiQ:x.aL=2->x.fArgs.length=0->dK x=bn x.fName:=fun a b=>by rw[hx,if_pos ⟨a,b⟩]
  have abJ:¬(x.aL=2/\x.fArgs.length=0)->dK x=dA ((if x.aL=3 then [bn fT] else [])++[bn x.fName]++x.fArgs.map dK):=fun a=>by rw[hx,if_neg a]
  clear hx
  repeat' (first|(with_reducible refine aA (fun hb=> ?_) (fun hb=> ?_)<;>have h:=hb<;>(try simp only[wf_preprocess] at h)<;>simp -implicitDefEqProofs (disch:=omega) only[go_sem,hb]<;>(repeat(with_reducible refine And.intro ?_ ?_;focus first|omega|rfl|assumption|exact⟨_,rfl,rfl⟩|(simp;omega)|(simp;done)))))
  ·rw[aiQ (by omega) (by omega)];refine au (bQ _) ?_;simp -implicitDefEqProofs (disch:=omega) only[go_sem];rfl
  ·exfalso;omega
  ·have hx:=abJ (by omega);rw[if_neg h,List.nil_append] at hx;refine au (bQ _) ?_;simp -implicitDefEqProofs (disch:=omega) only[go_sem]
   (repeat(with_reducible refine And.intro ?_ ?_;focus first|omega|rfl|assumption|exact⟨_,rfl,rfl⟩|(simp;omega)|(simp;done)))
   refine aZ (ι:=Nat) zmx rfl [1,2,3,4] (fun i=>[.c (.ptr (0,0) 0),.c (.ptr (0,1) 0),.c (.ptr (0,2) 0),.c (.d (.i .i64 i))])
    (fun i=>[.box [.d (.i .i64 x.aL),.d (.s x.fName),.d (.sl (x.fArgs.map ak.enc))],.box [.d (.s []),.bA []],.box [.d (.s []),.bG (0,3) (([bn x.fName]++(x.fArgs.map dK).take i).map ah.enc)],.tok 2 (([bn x.fName]++(x.fArgs.map dK).take i).map ah.enc)]::S)
    (fun i=>i<=x.fArgs.length) (fun i=>x.fArgs.length-i) 0 rfl ?_ (Nat.zero_le _) ?_
   ·simp only[List.take_zero,List.append_nil,List.map_cons,List.map_nil,List.cons_append,List.nil_append,fP]<;>(try rfl)
   intro i hi
   have hl:(([bn x.fName]++(x.fArgs.map dK).take i).map ah.enc).length<=i+2:=by
    rw[List.length_map,List.length_append];have:=List.length_take_le i (x.fArgs.map dK);simp only[List.length_cons,List.length_nil];omega
   have hs:=fun hi=>l9 (base:=[bn x.fName]) (l:=x.fArgs.map dK) (i:=i) hi;have hrw:=iq (l:=[bn x.fName]++(x.fArgs.map dK).take i);generalize hR:([bn x.fName]++(x.fArgs.map dK).take i).map ah.enc=R at hl hs hrw;simp -implicitDefEqProofs (disch:=omega) only[go_sem]
   with_reducible refine aA (fun hb=> ?_) (fun hb=> ?_)<;>have h:=hb<;>(try simp only[wf_preprocess] at h)<;>simp -implicitDefEqProofs (disch:=omega) only[go_sem,hb]<;>(repeat(with_reducible refine And.intro ?_ ?_;focus first|omega|rfl|assumption|exact⟨_,rfl,rfl⟩|(simp;omega)|(simp;done)))
   ·have hi':i<x.fArgs.length:=by omega
    have hs':=hs (by rw[List.length_map];exact hi');rw[List.getElem_map] at hs'
    (repeat(with_reducible refine And.intro ?_ ?_;focus first|omega|rfl|assumption|exact⟨_,rfl,rfl⟩|(simp;omega)|(simp;done)))
    refine au (ih x.fArgs[i] (by have:=List.sizeOf_lt_of_mem (List.getElem_mem hi');omega) (hall _ (List.getElem_mem hi'))) ?_;simp -implicitDefEqProofs (disch:=omega) only[go_sem]
    (repeat(with_reducible refine And.intro ?_ ?_;focus first|omega|rfl|assumption|exact⟨_,rfl,rfl⟩|(simp;omega)|(simp;done)))
    rw[hs'];exact cK (i+1) (by omega) rfl rfl (by omega)
   ·have hi':i=(x.fArgs.map dK).length:=by rw[List.length_map];omega
    rw[hx,<-hR,hi',List.take_length];simp only[eu,dX,List.cons_append,List.nil_append]
  ·have hx:=abJ (by omega);rw[if_pos h] at hx;refine au (bQ _) ?_;simp -implicitDefEqProofs (disch:=omega) only[go_sem]
   (repeat(with_reducible refine And.intro ?_ ?_;focus first|omega|rfl|assumption|exact⟨_,rfl,rfl⟩|(simp;omega)|(simp;done)))
   refine au (bQ _) ?_;simp -implicitDefEqProofs (disch:=omega) only[go_sem]
   (repeat(with_reducible refine And.intro ?_ ?_;focus first|omega|rfl|assumption|exact⟨_,rfl,rfl⟩|(simp;omega)|(simp;done)))
   refine aZ (ι:=Nat) zmx rfl [1,2,3,4] (fun i=>[.c (.ptr (0,0) 0),.c (.ptr (0,1) 0),.c (.ptr (0,2) 0),.c (.d (.i .i64 i))])
    (fun i=>[.box [.d (.i .i64 x.aL),.d (.s x.fName),.d (.sl (x.fArgs.map ak.enc))],.box [.d (.s []),.bA []],.box [.d (.s []),.bG (0,3) (([bn fT,bn x.fName]++(x.fArgs.map dK).take i).map ah.enc)],.tok 2 (([bn fT,bn x.fName]++(x.fArgs.map dK).take i).map ah.enc)]::S)
    (fun i=>i<=x.fArgs.length) (fun i=>x.fArgs.length-i) 0 rfl ?_ (Nat.zero_le _) ?_
   ·simp only[List.take_zero,List.append_nil,List.map_cons,List.map_nil,List.cons_append,List.nil_append,fP]<;>(try rfl)
   intro i hi
   have hl:(([bn fT,bn x.fName]++(x.fArgs.map dK).take i).map ah.enc).length<=i+2:=by
    rw[List.length_map,List.length_append];have:=List.length_take_le i (x.fArgs.map dK);simp only[List.length_cons,List.length_nil];omega
   have hs:=fun hi=>l9 (base:=[bn fT,bn x.fName]) (l:=x.fArgs.map dK) (i:=i) hi;have hrw:=iq (l:=[bn fT,bn x.fName]++(x.fArgs.map dK).take i);generalize hR:([bn fT,bn x.fName]++(x.fArgs.map dK).take i).map ah.enc=R at hl hs hrw;simp -implicitDefEqProofs (disch:=omega) only[go_sem]
   with_reducible refine aA (fun hb=> ?_) (fun hb=> ?_)<;>have h:=hb<;>(try simp only[wf_preprocess] at h)<;>simp -implicitDefEqProofs (disch:=omega) only[go_sem,hb]<;>(repeat(with_reducible refine And.intro ?_ ?_;focus first|omega|rfl|assumption|exact⟨_,rfl,rfl⟩|(simp;omega)|(simp;done)))
   ·have hi':i<x.fArgs.length:=by omega
    have hs':=hs (by rw[List.length_map];exact hi');rw[List.getElem_map] at hs'
    (repeat(with_reducible refine And.intro ?_ ?_;focus first|omega|rfl|assumption|exact⟨_,rfl,rfl⟩|(simp;omega)|(simp;done)))
    refine au (ih x.fArgs[i] (by have:=List.sizeOf_lt_of_mem (List.getElem_mem hi');omega) (hall _ (List.getElem_mem hi'))) ?_;simp -implicitDefEqProofs (disch:=omega) only[go_sem]
    (repeat(with_reducible refine And.intro ?_ ?_;focus first|omega|rfl|assumption|exact⟨_,rfl,rfl⟩|(simp;omega)|(simp;done)))
    rw[hs'];exact cK (i+1) (by omega) rfl rfl (by omega)
   ·have hi':i=(x.fArgs.map dK).length:=by rw[List.length_map];omega
    rw[hx,<-hR,hi',List.take_length];simp only[eu,dX,List.cons_append,List.nil_append]
  ·have hx:=abJ (by omega);rw[if_neg h,List.nil_append] at hx;refine au (bQ _) ?_;simp -implicitDefEqProofs (disch:=omega) only[go_sem]
   (repeat(with_reducible refine And.intro ?_ ?_;focus first|omega|rfl|assumption|exact⟨_,rfl,rfl⟩|(simp;omega)|(simp;done)))
   refine aZ (ι:=Nat) zmx rfl [1,2,3,4] (fun i=>[.c (.ptr (0,0) 0),.c (.ptr (0,1) 0),.c (.ptr (0,2) 0),.c (.d (.i .i64 i))])
    (fun i=>[.box [.d (.i .i64 x.aL),.d (.s x.fName),.d (.sl (x.fArgs.map ak.enc))],.box [.d (.s []),.bA []],.box [.d (.s []),.bG (0,3) (([bn x.fName]++(x.fArgs.map dK).take i).map ah.enc)],.tok 2 (([bn x.fName]++(x.fArgs.map dK).take i).map ah.enc)]::S)
    (fun i=>i<=x.fArgs.length) (fun i=>x.fArgs.length-i) 0 rfl ?_ (Nat.zero_le _) ?_
   ·simp only[List.take_zero,List.append_nil,List.map_cons,List.map_nil,List.cons_append,List.nil_append,fP]<;>(try rfl)
   intro i hi
   have hl:(([bn x.fName]++(x.fArgs.map dK).take i).map ah.enc).length<=i+2:=by
    rw[List.length_map,List.length_append];have:=List.length_take_le i (x.fArgs.map dK);simp only[List.length_cons,List.length_nil];omega
   have hs:=fun hi=>l9 (base:=[bn x.fName]) (l:=x.fArgs.map dK) (i:=i) hi;have hrw:=iq (l:=[bn x.fName]++(x.fArgs.map dK).take i);generalize hR:([bn x.fName]++(x.fArgs.map dK).take i).map ah.enc=R at hl hs hrw;simp -implicitDefEqProofs (disch:=omega) only[go_sem]
   with_reducible refine aA (fun hb=> ?_) (fun hb=> ?_)<;>have h:=hb<;>(try simp only[wf_preprocess] at h)<;>simp -implicitDefEqProofs (disch:=omega) only[go_sem,hb]<;>(repeat(with_reducible refine And.intro ?_ ?_;focus first|omega|rfl|assumption|exact⟨_,rfl,rfl⟩|(simp;omega)|(simp;done)))
   ·have hi':i<x.fArgs.length:=by omega
    have hs':=hs (by rw[List.length_map];exact hi');rw[List.getElem_map] at hs'
    (repeat(with_reducible refine And.intro ?_ ?_;focus first|omega|rfl|assumption|exact⟨_,rfl,rfl⟩|(simp;omega)|(simp;done)))
    refine au (ih x.fArgs[i] (by have:=List.sizeOf_lt_of_mem (List.getElem_mem hi');omega) (hall _ (List.getElem_mem hi'))) ?_;simp -implicitDefEqProofs (disch:=omega) only[go_sem]
    (repeat(with_reducible refine And.intro ?_ ?_;focus first|omega|rfl|assumption|exact⟨_,rfl,rfl⟩|(simp;omega)|(simp;done)))
    rw[hs'];exact cK (i+1) (by omega) rfl rfl (by omega)
   ·have hi':i=(x.fArgs.map dK).length:=by rw[List.length_map];omega
    rw[hx,<-hR,hi',List.take_length];simp only[eu,dX,List.cons_append,List.nil_append]
theorem wT(x:ak)(hsz:x.sz<=4194304):aG prog 38 [x.v] (.agg [.d (.s (dK x).aQ),.d (.sl ((dK x).aj.map ah.enc))]):=Jz _ x (Nat.lt_succ_self _) hsz
theorem Cq(xs:List ak)(hlen:xs.length<=4194304)(hsz:∀t∈xs,t.sz<=4194304):aG prog 71 [.c (.d (.sl (xs.map ak.enc)))] (.c (.d (.sl ((xs.map dK).map ah.enc)))):=fun S=>by
 refine zcx [.tmp 2] func71 ntmps71 ?_;simp -implicitDefEqProofs (disch:=omega) only[go_sem]
 (repeat(with_reducible refine And.intro ?_ ?_;focus first|omega|rfl|assumption|exact⟨_,rfl,rfl⟩|(simp;omega)|(simp;done)))
 refine wM 3 2 [] rfl (by simp) ?_
 refine aZ (ι:=Nat) zmx rfl [0,3,4] (fun i=>[.c (.d (.sl (xs.map ak.enc))),.c (.bG (0,0) (((xs.map dK).take i).map ah.enc)),.c (.d (.i .i64 i))]) (fun i=>[.tok 2 (((xs.map dK).take i).map ah.enc)]::S)
  (fun i=>i<=xs.length) (fun i=>xs.length-i) 0 rfl rfl (Nat.zero_le _) ?_
 intro i hi
 have hl:(((xs.map dK).take i).map ah.enc).length<=i:=by rw[List.length_map];exact List.length_take_le _ _
 simp -implicitDefEqProofs (disch:=omega) only[go_sem]
 with_reducible refine aA (fun hb=> ?_) (fun hb=> ?_)<;>have h:=hb<;>(try simp only[wf_preprocess] at h)<;>simp -implicitDefEqProofs (disch:=omega) only[go_sem,hb]<;>(repeat(with_reducible refine And.intro ?_ ?_;focus first|omega|rfl|assumption|exact⟨_,rfl,rfl⟩|(simp;omega)|(simp;done)))
 ·have hi':i<xs.length:=by omega
  have hs:=l9 (base:=[]) (l:=xs.map dK) (i:=i) (by rw[List.length_map];exact hi');rw[List.getElem_map] at hs;simp only[List.nil_append] at hs
  (repeat(with_reducible refine And.intro ?_ ?_;focus first|omega|rfl|assumption|exact⟨_,rfl,rfl⟩|(simp;omega)|(simp;done)))
  refine au (wT xs[i] (hsz _ (List.getElem_mem hi'))) ?_;simp -implicitDefEqProofs (disch:=omega) only[go_sem]
  (repeat(with_reducible refine And.intro ?_ ?_;focus first|omega|rfl|assumption|exact⟨_,rfl,rfl⟩|(simp;omega)|(simp;done)))
  rw[hs];exact cK (i+1) (by omega) rfl rfl (by omega)
 ·have hi':i=(xs.map dK).length:=by rw[List.length_map];omega
  rw[hi',List.take_length]
theorem Eh(b:Bool)(x:ah)(hsz:x.sz<=67108864):aG prog 39 [.c (.d (.b b)),x.v] (uU b x).v:=by
 have zero:aG prog 39 [.c (.d (.b b)),x.v] (.agg [.d (.s []),.bA []])->aG prog 39 [.c (.d (.b b)),x.v] eH.v:=fun h=>aG.less h (KI [] [])
 cases b with
 |false=>
  refine zero fun S=> ?_;refine zcx [.cell 4 39] func39 ntmps39 ?_;simp -implicitDefEqProofs (disch:=omega) only[go_sem]
 |true=>
  show aG prog 39 [.c (.d (.b true)),x.v] (Bg x).v;unfold Bg
  cases hv:iK x with
  |false=>
   refine zero fun S=> ?_;refine zcx [.cell 4 39] func39 ntmps39 ?_;simp -implicitDefEqProofs (disch:=omega) only[go_sem];refine au (xE x hsz) ?_;simp -implicitDefEqProofs (disch:=omega) only[go_sem,hv]
  |true=>
   intro S;refine zcx [.cell 4 39] func39 ntmps39 ?_;simp -implicitDefEqProofs (disch:=omega) only[go_sem];refine au (xE x hsz) ?_;simp -implicitDefEqProofs (disch:=omega) only[go_sem,hv]
theorem Vm(x:ah)(n:Nat)(hsz:x.sz<=67108864):aG prog 34 [.agg [.d (.s x.aQ),.d (.ol n (lx x.aj (n+1)))]] (.agg [.d (.s (Bg x).aQ),.d (.ol n (lx (Bg x).aj (n+1)))]):=by
 unfold Bg
 cases hv:iK x with
 |false=>
  refine aG.less (fun S=> ?_) (KH [] n);refine zcx [.cell 2 39] func34 ntmps34 ?_;simp -implicitDefEqProofs (disch:=omega) only[go_sem];refine sw (xD x hsz) (.cons (KJ x n) .nil) ?_;simp -implicitDefEqProofs (disch:=omega) only[go_sem,hv]
 |true=>
  intro S;refine zcx [.cell 2 39] func34 ntmps34 ?_;simp -implicitDefEqProofs (disch:=omega) only[go_sem];refine sw (xD x hsz) (.cons (KJ x n) .nil) ?_;simp -implicitDefEqProofs (disch:=omega) only[go_sem,hv]
def wu:List UInt8:=[116,114,117,101]
def uY:List UInt8:=[102,97,108,115,101]
def lW:List UInt8:=[99,97,108,108]
def gJ:List UInt8:=[109,101,116,104,111,100]
def oC:List UInt8:=[110,101,119]
def jf:List UInt8:=[99,97,115,101]
def oD:List UInt8:=[108,101,116]
def sD:List UInt8:=[105,102]
def lX:List UInt8:=[112,97,99,107]
def pq:List UInt8:=[116,104,101]
def gF(k:Int)(tr nm:List UInt8)(ty:ak):List ah:=
 if k=4 then aP [lW,nm] else if k=5 then aP [gJ,tr,nm] else if k=6 then aP [oC,nm] else if k=8 then aP [oD,nm] else
 if k=9 then aP [sD] else if k=10 then aP [nm] else if k=11 then aP [lX,tr] else if k=12 then [bn pq,dK ty] else aP [jf]
mutual
def dZ:ay->ah
 | .mk k tr nm n ty zs ms=>if k=1 then bn (Lib.itoa n) else if k=2 then bn (if n=1 then wu else uY) else if k=3 then bn nm else
   dA (gF k tr nm ty++xH zs++(if k=4\/k=5\/k=6\/k=8\/k=9\/k=10\/k=11\/k=12 then [] else Cr ms))
def xH:List ay->List ah
 |[]=>[]
 |t::ts=>dZ t::xH ts
def vw:aM->ah
 | .mk c vs b=>dA ([bn c]++aP vs++[dZ b])
def Cr:List aM->List ah
 |[]=>[]
 |t::ts=>vw t::Cr ts
end
theorem zo:∀l,xH l=l.map dZ
 |[]=>rfl
 |t::ts=>by rw[xH,List.map_cons,zo ts]
theorem Ct:∀l,Cr l=l.map vw
 |[]=>rfl
 |t::ts=>by rw[Cr,List.map_cons,Ct ts]
theorem Ei(x:ay):dZ x=if x.aL=1 then bn (Lib.itoa x.fN) else if x.aL=2 then bn (if x.fN=1 then wu else uY) else if x.aL=3 then bn x.fName else
 dA (gF x.aL x.bE x.fName x.fType++x.fArgs.map dZ++(if x.aL=4\/x.aL=5\/x.aL=6\/x.aL=8\/x.aL=9\/x.aL=10\/x.aL=11\/x.aL=12 then [] else x.aK.map vw)):=by
 cases x;rw[dZ,zo,Ct];rfl
theorem YB(x:aM):vw x=dA ([bn x.bS]++aP x.aX++[dZ x.fBody]):=by cases x;rw[vw];rfl
def qx:List ay->Nat
 |[]=>0
 |x::xs=>x.sz+qx xs
theorem GN:∀l,bC (l.map ay.enc)=qx l
 |[]=>rfl
 |x::xs=>by rw[List.map_cons,bC,qx,GN xs];rfl
def xR:List aM->Nat
 |[]=>0
 |x::xs=>x.sz+xR xs
theorem GQ:∀l,bC (l.map aM.enc)=xR l
 |[]=>rfl
 |x::xs=>by rw[List.map_cons,bC,xR,GQ xs];rfl
theorem sV(x:ay):x.sz=x.bE.length+x.fName.length+x.fType.sz+(x.fArgs.length+qx x.fArgs)+(x.aK.length+xR x.aK):=by
 rw[<-GN,<-GQ];simp only[ay.sz,ay.aB,bN,bR,D.sz,List.length_map,ak.dQ];omega
theorem wU(x:aM):x.sz=x.bS.length+(x.aX.length+(x.aX.map List.length).sum)+x.fBody.sz:=by
 rw[<-fJ];simp only[aM.sz,aM.aB,bN,bR,D.sz,List.length_map,ay.dQ];omega
theorem Bo:∀(k n:Nat),n<10^ (k+1)->(Lib.decDigits n).length<=k+1
 |0,n,h=>by rw[Lib.decDigits,dif_pos (by simpa using h)];simp
 |k+1,n,h=>by
  rw[Lib.decDigits];split
  ·simp
  ·rw[List.length_append];have:=Bo k (n/10) (by rw[Nat.pow_succ] at h;omega);simp;omega
theorem abK{n:Int}(h: -999999<=n/\n<=999999):(Lib.itoa n).length<=7:=by
 unfold Lib.itoa;split
 ·have:=Bo 5 n.natAbs (by omega);simp;omega
 ·have:=Bo 5 n.toNat (by omega);omega
theorem YC(k:Int)(tr nm:List UInt8)(ty:ak):(gF k tr nm ty).length<=3/\dG (gF k tr nm ty)<=18+tr.length+nm.length+16*ty.sz:=by
 have h:=O7 ty;unfold gF
 repeat' (first|(split;·refine⟨by simp[aP],?_⟩;simp[dG,aP,mE,lW,gJ,oC,oD,sD,lX,pq,jf];omega))
 refine⟨by simp[aP],?_⟩;simp[dG,aP,mE,jf];omega
mutual
theorem Pk:∀x:ay,ig x=true->(dZ x).sz<=24+32*x.sz
 | .mk k tr nm n ty zs ms=>fun hok=>by
   rw[ig,Bool.and_eq_true,Bool.and_eq_true] at hok;have hf:=iX hok.1;have h1:=Sy zs hok.2.1;have h2:=Sz ms hok.2.2;have h3:=YC k tr nm ty;rw[sV];simp only[ay.fName,ay.fArgs,ay.bE,ay.fType,ay.aK];rw[dZ];split
   ·rename_i hk;have h4:=hf.2.2.2.1;simp only[ay.aL,ay.fN,hk,if_true] at h4;have:=abK h4;rw[mE];omega
   ·split
    ·rw[mE];split<;>simp[wu,uY]<;>omega
    ·split
     ·rw[mE];omega
     ·rw[qF,kR,kR,List.length_append,List.length_append,zo,List.length_map,<-zo];split
      ·simp[dG];omega
      ·rw[Ct,List.length_map,<-Ct];omega
theorem Sy:∀xs:List ay,jK xs=true->dG (xH xs)<=24*xs.length+32*qx xs
 |[],_=>by simp[xH,dG]
 |x::xs,h=>by
  rw[jK,Bool.and_eq_true] at h;have h1:=Pk x h.1;have h2:=Sy xs h.2;rw[xH,dG,qx,List.length_cons];omega
theorem afL:∀x:aM,rR x=true->(vw x).sz<=26+32*x.sz
 | .mk c vs b=>fun hok=>by
   rw[rR,Bool.and_eq_true,Bool.and_eq_true] at hok;have h1:=Pk b hok.2.2;rw[wU];simp only[aM.bS,aM.aX,aM.fBody];rw[vw,qF,kR,kR,List.length_append,List.length_append,kC,wS];simp[dG,mE];omega
theorem Sz:∀xs:List aM,l6 xs=true->dG (Cr xs)<=26*xs.length+32*xR xs
 |[],_=>by simp[Cr,dG]
 |x::xs,h=>by
  rw[l6,Bool.and_eq_true] at h;have h1:=afL x h.1;have h2:=Sz xs h.2;rw[Cr,dG,xR,List.length_cons];omega
end
end Go.Ab
namespace Go.Proofs
open Go.Shelf
def Tryz.laysM171_ren:Go.Shelf.Ren:=⟨fun|171=>198|243=>225|246=>236|283=>244|284=>245|285=>246|286=>247|129=>254|317=>253|318=>255|319=>256|320=>257|337=>261|338=>262|n=>n,fun|3=>3|9=>9|2=>2|4=>4|171=>213|0=>0|53=>214|37=>22|5=>5|173=>217|212=>228|51=>229|20=>20|213=>230|46=>173|232=>239|233=>240|n=>n,fun|17=>2|18=>4|19=>5|n=>n⟩
theorem Tryz.laysM171:Go.Proofs.LaysM.n171 prog Tryz.laysM171_ren:={
 mixed:=by kernel_rfl
 f129:=func254.trans (congrArg some (by kernel_rfl))
 f171:=func198.trans (congrArg some (by kernel_rfl))
 f243:=func225.trans (congrArg some (by kernel_rfl))
 f246:=func236.trans (congrArg some (by kernel_rfl))
 f283:=func244.trans (congrArg some (by kernel_rfl))
 f284:=func245.trans (congrArg some (by kernel_rfl))
 f285:=func246.trans (congrArg some (by kernel_rfl))
 f286:=func247.trans (congrArg some (by kernel_rfl))
 f317:=func253.trans (congrArg some (by kernel_rfl))
 f318:=func255.trans (congrArg some (by kernel_rfl))
 f319:=func256.trans (congrArg some (by kernel_rfl))
 f320:=func257.trans (congrArg some (by kernel_rfl))
 f337:=func261.trans (congrArg some (by kernel_rfl))
 f338:=func262.trans (congrArg some (by kernel_rfl))
 t0:=underlying0
 a0:=Tryz.isAgg0
 z0:=Tryz.sizeOf0
 v0:=Tryz.zeroValue0
 t2:=underlying2
 a2:=Tryz.isAgg2
 z2:=Tryz.sizeOf2
 v2:=Tryz.zeroValue2
 t3:=underlying3
 a3:=Tryz.isAgg3
 z3:=Tryz.sizeOf3
 v3:=Tryz.zeroValue3
 t4:=underlying4
 a4:=Tryz.isAgg4
 z4:=Tryz.sizeOf4
 v4:=Tryz.zeroValue4
 t5:=underlying5
 a5:=Tryz.isAgg5
 z5:=Tryz.sizeOf5
 v5:=Tryz.zeroValue5
 t9:=underlying9
 a9:=Tryz.isAgg9
 z9:=Tryz.sizeOf9
 v9:=Tryz.zeroValue9
 t20:=underlying20
 a20:=Tryz.isAgg20
 z20:=Tryz.sizeOf20
 v20:=Tryz.zeroValue20
 t37:=underlying22
 a37:=Tryz.isAgg22
 z37:=Tryz.sizeOf22
 v37:=Tryz.zeroValue22
 t46:=underlying173
 a46:=Tryz.isAgg173
 z46:=Tryz.sizeOf173
 v46:=Tryz.zeroValue173
 t51:=underlying229
 a51:=Tryz.isAgg229
 z51:=Tryz.sizeOf229
 v51:=Tryz.zeroValue229
 t53:=underlying214
 a53:=Tryz.isAgg214
 z53:=Tryz.sizeOf214
 v53:=Tryz.zeroValue214
 t171:=underlying213
 a171:=Tryz.isAgg213
 z171:=Tryz.sizeOf213
 v171:=Tryz.zeroValue213
 t173:=underlying217
 a173:=Tryz.isAgg217
 z173:=Tryz.sizeOf217
 v173:=Tryz.zeroValue217
 t212:=underlying228
 a212:=Tryz.isAgg228
 z212:=Tryz.sizeOf228
 v212:=Tryz.zeroValue228
 t213:=underlying230
 a213:=Tryz.isAgg230
 z213:=Tryz.sizeOf230
 t232:=underlying239
 a232:=Tryz.isAgg239
 z232:=Tryz.sizeOf239
 v232:=Tryz.zeroValue239
 t233:=underlying240
 a233:=Tryz.isAgg240
 z233:=Tryz.sizeOf240
 v233:=Tryz.zeroValue240
 g17:=by kernel_rfl
 g18:=by kernel_rfl
 g19:=by kernel_rfl
 i0:=by kernel_rfl
 i2:=by kernel_rfl
 i3:=by kernel_rfl
 i4:=by kernel_rfl
 i5:=by kernel_rfl
 i9:=by kernel_rfl
 i20:=by kernel_rfl
 i37:=by kernel_rfl
 i46:=by kernel_rfl
 i51:=by kernel_rfl
 i53:=by kernel_rfl
 i171:=by kernel_rfl
 i173:=by kernel_rfl
 i212:=by kernel_rfl
 i232:=by kernel_rfl
 i233:=by kernel_rfl
 m17:=by kernel_rfl
 m18:=by kernel_rfl
 m19:=by kernel_rfl}
open Go.RowKit Go.Sort Go.Lib in
theorem Tryz.strconv_Itoa(n:Int)(h0: -9223372036854775808<=n)(h1:n<=9223372036854775807)(w:World)(htab:Lib.TabIs prog w "internal/strconv.uint64pow10" .u64 Lib.pow10Tab):
 Calls prog 198 #[.int .i64 n] w fun e w'=>e=.returned (.string ⟨(Lib.itoa n).toArray⟩)/\∃k os,w'=grow (w.drewN k) os:=Any.strconv_Itoa Tryz.laysM171 n h0 h1 w htab
end Go.Proofs
namespace Go.Ab
theorem Vn{w:World}{σ:Nat->Nat}{k:Nat}{os:Array Go.Obj}(hl:∀b,b<w.heap.size\/σ b=0):Grow w σ (Go.Sort.grow (w.drewN k) os) σ:=by
 have hh:(Go.Sort.grow (w.drewN k) os).heap=w.heap++os:=rfl;refine⟨by rw[hh];simp,rfl,rfl,fun b hb=>⟨by rw[hh,Array.getElem?_append_left hb],rfl⟩,fun b=> ?_⟩;rcases hl b with h|h
 ·left;rw[hh];simp;omega
 ·exact .inr h
theorem aeb{x:V}{vs:List Value}{w:World}{σ:Nat->Nat}{S:Store}{β:Hs}(h:nI w σ S β [x] vs):∃v,vs=[v]/\bV w σ S β x v:=by
 obtain⟨hl,h⟩:=h;obtain⟨v,e,hr⟩:=h 0 x rfl
 match vs,hl,e with
 |[y],_,e=>simp at e;subst e;exact⟨_,rfl,hr⟩
theorem LJ{w:World}{σ:Nat->Nat}(h:Af w σ):Lib.TabIs prog w "internal/strconv.uint64pow10" .u64 Lib.pow10Tab:=by
 obtain⟨c,t,fz,q1,q2,q3⟩:=h _ _ (show _∈RX from List.mem_cons_self ..)
 have hn:prog.globalNamed "internal/strconv.uint64pow10" =some 2:=by kernel_rfl
 unfold Lib.TabIs World.var?;rw[hn];simp only[Option.bind_some,q1,Option.some.injEq];apply Array.ext';rw[q2];simp[Lib.pow10Tab]
theorem aec(n:Int)(h0: -9223372036854775808<=n)(h1:n<=9223372036854775807):aG prog 198 [.c (.d (.i .i64 n))] (.c (.d (.s (Lib.itoa n)))):=fun S=>by
 refine⟨⟨_,func198,by kernel_rfl,by kernel_rfl⟩,fun w σ β vs hS hv=> ?_⟩;obtain⟨v,rfl,hr,_⟩:=aeb hv
 have hv0:v=.int .i64 n:=by cases hr;rfl
 subst hv0;refine(Tryz.strconv_Itoa n h0 h1 w (LJ hS.qI)).mono fun e w' ⟨he,k,os,hw⟩=> ?_;subst hw;have hg:Grow w σ (Go.Sort.grow (w.drewN k) os) σ:=Vn hS.live;exact⟨_,.c (.d (.s (Lib.itoa n))),S,σ,β,he,hS.grow hg,Keep.refl _ _,Step.mh hg,⟨.s _,rfl⟩,rfl,rfl⟩
theorem GR(n:Int)(h0: -9223372036854775808<=n)(h1:n<=9223372036854775807):aG prog 167 [.c (.d (.i .i64 n))] (.c (.d (.s (Lib.itoa n)))):=fun S=>by
 refine zcx [.tmp 2] func167 ntmps167 ?_;simp -implicitDefEqProofs (disch:=omega) only[go_sem];refine au (aec n h0 h1) ?_;simp -implicitDefEqProofs (disch:=omega) only[go_sem]<;>(repeat(with_reducible refine And.intro ?_ ?_;focus first|omega|rfl|assumption|exact⟨_,rfl,rfl⟩|(simp;omega)|(simp;done)))
end Go.Ab