/-
  SEVERAL TEXTS IN ONE (merged by program): contracts and models, each with its own heading.
-/
import Derived.Test.YtnceiannponbjaaGreatDoorPartDlbD
import Derived.Test.YtnceiannponbjaaGreatDoorPartDlbG
import Derived.Lib.ItoaNum
import Derived.Shelf.LaysM
import Derived.Shelf.Strconv.Itoa3
import Derived.Test.YtnceiannponbjaaGreatDoorProg
open Go.Proofs Go.Proofs.Tryz
set_option linter.unusedSimpArgs false
set_option linter.unusedVariables false
set_option maxRecDepth 4000
namespace Go.Ab
def bH(s:List UInt8):ah:=.mk s []
def bS(l:List ah):ah:=.mk [] l
def aR(l:List (List UInt8)):List ah:=l.map bH
def eH:ah:=.mk [] []
theorem tF(s:List UInt8):(bH s).aU=s:=rfl
theorem tH(s:List UInt8):(bH s).aj=[]:=rfl
theorem d9(l:List ah):(bS l).aU=[]:=rfl
theorem dP(l:List ah):(bS l).aj=l:=rfl
def Dy:List UInt8:=[100,121,110]
def nA:List UInt8:=[97,115,115,111,99]
mutual
def dK:au->ah
 | .mk k n zs=>if k=1 then bH ([39]++n) else if k=4 then bS [bH Dy,bH n] else if k=2/\zs.length=0 then bH n else
   bS ((if k=3 then [bH nA] else [])++[bH n]++Ai zs)
def Ai:List au->List ah
 |[]=>[]
 |t::ts=>dK t::Ai ts
end
theorem wX:∀l,Ai l=l.map dK
 |[]=>rfl
 |t::ts=>by rw[Ai,List.map_cons,wX ts]
theorem Zk(x:au):dK x=if x.aI=1 then bH ([39]++x.fName) else if x.aI=4 then bS [bH Dy,bH x.fName] else if x.aI=2/\x.fArgs.length=0 then bH x.fName else
 bS ((if x.aI=3 then [bH nA] else [])++[bH x.fName]++x.fArgs.map dK):=by
 cases x;rw[dK,wX];rfl
theorem wh{t:au}(h:lK t=true):formed t=true:=(gF h).1
theorem iB(x:ah):x.sz=x.aU.length+(x.aj.length+bB (x.aj.map ah.enc)):=by
 simp only[ah.sz,ah.aB,bL,D.sz,List.length_map];omega
def dJ:List ah->Nat
 |[]=>0
 |x::xs=>x.sz+dJ xs
theorem jE:∀l,bB (l.map ah.enc)=dJ l
 |[]=>rfl
 |x::xs=>by rw[List.map_cons,bB,dJ,jE xs];rfl
theorem lq:∀a b,dJ (a++b)=dJ a+dJ b
 |[],b=>by simp[dJ]
 |x::a,b=>by rw[List.cons_append,dJ,dJ,lq a b];omega
theorem jP{x:ah}:∀{l:List ah},x∈l->x.sz<=dJ l
 |y::l,h=>by
  rw[dJ];rcases List.mem_cons.1 h with rfl|h
  ·omega
  ·have:=jP h;omega
theorem mV(s:List UInt8):(bH s).sz=s.length:=by rw[iB];simp[bH,ah.aU,ah.aj,bB]
theorem tJ(l:List ah):(bS l).sz=l.length+dJ l:=by rw[iB,jE];simp[bS,ah.aU,ah.aj]
theorem Bb:∀l:List (List UInt8),dJ (aR l)=(l.map List.length).sum
 |[]=>rfl
 |s::l=>by rw[aR,List.map_cons,dJ,mV,<-aR,Bb l,List.map_cons,List.sum_cons]
theorem kL(l:List (List UInt8)):(aR l).length=l.length:=by simp[aR]
theorem gL:∀l:List (List UInt8),bB (l.map encS)=(l.map List.length).sum
 |[]=>rfl
 |s::l=>by rw[List.map_cons,bB,gL l,List.map_cons,List.sum_cons];simp[encS,bL,D.sz]
def sJ:List au->Nat
 |[]=>0
 |x::xs=>x.sz+sJ xs
theorem Qu:∀l,bB (l.map au.enc)=sJ l
 |[]=>rfl
 |x::xs=>by rw[List.map_cons,bB,sJ,Qu xs];rfl
theorem sK(x:au):x.sz=x.fName.length+(x.fArgs.length+sJ x.fArgs):=by
 rw[<-Qu];simp only[au.sz,au.aB,bL,D.sz,List.length_map];omega
mutual
theorem Fh:∀x:au,(dK x).sz<=12+16*x.sz
 | .mk k n zs=>by
   have h:=TY zs;rw[sK];simp only[au.fName,au.fArgs];rw[dK];split
   ·rw[mV];simp;omega
   ·split
    ·rw[tJ];simp[dJ,mV,Dy];omega
    ·split
     ·rw[mV];omega
     ·rw[tJ,lq,lq,List.length_append,List.length_append,wX,List.length_map,<-wX];split<;>simp[dJ,mV,nA]<;>omega
theorem TY:∀xs:List au,dJ (Ai xs)<=12*xs.length+16*sJ xs
 |[]=>by simp[Ai,dJ]
 |x::xs=>by
  have h1:=Fh x;have h2:=TY xs;rw[Ai,dJ,sJ,List.length_cons];omega
end
def jF(b:UInt8):Bool:=decide (97<=b.toNat/\b.toNat<=122)||decide (48<=b.toNat/\b.toNat<=57)||decide (b∈([39,45,43,42,60,61,46]:List UInt8))
def validAtom(s:List UInt8):Bool:=s.all jF&&decide (1<=s.length/\s.length<=12)
mutual
def je:ah->Bool
 | .mk a l=>if a=[] then jf l else validAtom a&&decide (l.length=0)
def jf:List ah->Bool
 |[]=>true
 |x::xs=>je x&&jf xs
end
mutual
def lu:ah->Nat
 | .mk a l=>if a=[] then nR l+1 else 0
def nR:List ah->Nat
 |[]=>0
 |x::xs=>max (lu x) (nR xs)
end
mutual
def j6:ah->Nat
 | .mk _ l=>mO l+1
def mO:List ah->Nat
 |[]=>0
 |x::xs=>j6 x+mO xs
end
theorem Aj(x:ah):je x=if x.aU=[] then jf x.aj else validAtom x.aU&&decide (x.aj.length=0):=by cases x;rw[je];rfl
theorem MP(x:ah):lu x=if x.aU=[] then nR x.aj+1 else 0:=by cases x;rw[lu];rfl
theorem Qv(x:ah):j6 x=mO x.aj+1:=by cases x;rw[j6];rfl
theorem Kj:∀{l:List ah},(l.any fun t=> !je t)= !jf l
 |[]=>rfl
 |t::ts=>by rw[List.any_cons,Kj (l:=ts),jf];simp
theorem zk:∀{l:List ah},jf l=true<->∀t∈l,je t=true
 |[]=>by simp[jf]
 |t::ts=>by simp[jf,zk (l:=ts)]
mutual
theorem BH:∀x:ah,lu x<=j6 x
 | .mk a l=>by
   have:=Fj l;rw[lu,j6];split<;>omega
theorem Fj:∀l:List ah,nR l<=mO l
 |[]=>by simp[nR]
 |x::xs=>by
  have h1:=BH x;have h2:=Fj xs;rw[nR,mO];omega
end
mutual
theorem Qw:∀x:ah,j6 x<=x.sz+1
 | .mk a l=>by
   have:=MQ l;rw[iB,j6,jE];simp only[ah.aU,ah.aj];omega
theorem MQ:∀l:List ah,mO l<=l.length+dJ l
 |[]=>by simp[mO]
 |x::xs=>by
  have h1:=Qw x;have h2:=MQ xs;rw[mO,dJ,List.length_cons];omega
end
def iE(x:ah):Bool:=je x&&decide (lu x<=14/\j6 x<=900)
mutual
theorem Qx:∀x:ah,je x=true->x.sz+1<=13*j6 x
 | .mk a l=>fun h=>by
   rw[je] at h;rw[iB,j6,jE];simp only[ah.aU,ah.aj];split at h
   ·rename_i ha;have:=MR l h;subst ha;simp only[List.length_nil];omega
   ·rw[Bool.and_eq_true,decide_eq_true_eq] at h;have h1:=h.1;unfold validAtom at h1;rw[Bool.and_eq_true,decide_eq_true_eq] at h1;have:l=[]:=List.eq_nil_of_length_eq_zero h.2;subst this;simp[dJ];omega
theorem MR:∀l:List ah,jf l=true->l.length+dJ l<=13*mO l
 |[],_=>by simp[dJ]
 |x::xs,h=>by
  rw[jf,Bool.and_eq_true] at h;have h1:=Qx x h.1;have h2:=MR xs h.2;rw[dJ,mO,List.length_cons];omega
end
theorem MS{x:ah}(h:iE x=true):x.sz<=11700:=by
 unfold iE at h;rw[Bool.and_eq_true,decide_eq_true_eq] at h;have:=Qx x h.1;omega
def Bc(x:ah):ah:=if iE x=true then x else eH
def wm:Bool->ah->ah
 |true,x=>Bc x
 |false,_=>eH
theorem agx(x:ah):(Bc x).sz<=11700:=by
 unfold Bc;split
 ·rename_i h;exact MS h
 ·rw[iB];simp[eH,ah.aU,ah.aj,bB]
theorem zy(b:Bool)(x:ah):(wm b x).sz<=11700:=by
 cases b with
 |true=>exact agx x
 |false=>rw[wm,iB];simp[eH,ah.aU,ah.aj,bB]
mutual
def pz:D->Nat
 | .sl es=>nG es+1
 | .ol _ _=>0
 | .b _=>0
 | .i _ _=>0
 | .s _=>0
 | .o _=>0
def qL:List D->Nat
 |[]=>0
 |d::ds=>pz d+qL ds
def nG:List (List D)->Nat
 |[]=>0
 |r::rs=>qL r+nG rs
end
mutual
def lC:D->Nat->D
 | .sl es,n=>.ol n (eP es (n+1))
 | .ol m es,_=>.ol m es
 | .b x,_=>.b x
 | .i k x,_=>.i k x
 | .s l,_=>.s l
 | .o v,_=>.o v
def dW:List D->Nat->List D
 |[],_=>[]
 |d::ds,n=>lC d n::dW ds (n+pz d)
def eP:List (List D)->Nat->List (List D)
 |[],_=>[]
 |r::rs,n=>dW r n::eP rs (n+qL r)
end
mutual
def nM:D->Bool
 | .sl es=>iZ es
 | .ol _ _=>false
 | .b _=>true
 | .i _ _=>true
 | .s _=>true
 | .o _=>false
def iM:List D->Bool
 |[]=>true
 |d::ds=>nM d&&iM ds
def iZ:List (List D)->Bool
 |[]=>true
 |r::rs=>iM r&&iZ rs
end
theorem Hu:∀a b n,dW (a++b) n=dW a n++dW b (n+qL a)
 |[],b,n=>by simp[dW,qL]
 |d::ds,b,n=>by rw[List.cons_append,dW,dW,Hu ds b,qL,Nat.add_assoc];rfl
theorem p8:∀a b n,eP (a++b) n=eP a n++eP b (n+nG a)
 |[],b,n=>by simp[eP,nG]
 |d::ds,b,n=>by rw[List.cons_append,eP,eP,p8 ds b,nG,Nat.add_assoc];rfl
theorem iU:∀r n,(dW r n).length=r.length
 |[],_=>rfl
 |d::ds,n=>by rw[dW,List.length_cons,iU ds,List.length_cons]
theorem jU:∀rs n,(eP rs n).length=rs.length
 |[],_=>rfl
 |r::rs,n=>by rw[eP,List.length_cons,jU rs,List.length_cons]
theorem zl{z:Nat}:∀{rs:List (List D)}{n:Nat},(∀r∈rs,r.length=z)->∀r∈eP rs n,r.length=z
 |[],_,_,r,h=>by rw[eP] at h;cases h
 |a::rs,n,ha,r,h=>by
  rw[eP] at h;rcases List.mem_cons.1 h with e|h
  ·rw[e,iU];exact ha a (by simp)
  ·exact zl (fun r hr=>ha r (by simp[hr])) r h
theorem gI:∀a b,iM (a++b)=(iM a&&iM b)
 |[],b=>by simp[iM]
 |d::ds,b=>by rw[List.cons_append,iM,iM,gI ds b,Bool.and_assoc]
theorem kG{α:Type}{f:α->List D}:∀{xs:List α},(∀x∈xs,iM (f x)=true)->iZ (xs.map f)=true
 |[],_=>rfl
 |x::xs,h=>by
  rw[List.map_cons,iZ,h x (by simp),kG fun y hy=>h y (by simp[hy])];rfl
section
variable {P:Program} {w:World} {σ σ':Nat->Nat} {S:Store} {β:Hs} {N:Nat} {s:St}
mutual
theorem acw:∀(d:D)(n:Nat)(v:Value),cu w σ (lC d n) v->cu w σ d v
 | .sl es,n,v,h=>by
   rw[lC] at h;have hl:=jU es (n+1);have hrec:=Wu es (n+1);generalize eP es (n+1)=q at h hl hrec
   cases h with
   |oU n a cap=>
    have:es=[]:=List.eq_nil_of_length_eq_zero (by simpa using hl.symm);subst this;exact .nil a cap
   |ol n b off cap aQ q vals c t hcap hlen hb hσ hfit hc hv hx=>
    obtain⟨r1,r2⟩:=hrec vals hv;rw[hl] at hcap hfit hc ⊢;refine .sl b off cap aQ es vals c t (0,0) hcap (fun e he=> ?_) hb (by omega) hc r2;obtain⟨e',h1,h2⟩:=r1 e he;rw[<-h2];exact hlen e' h1
 | .ol m es,n,v,h=>h
 | .b x,n,v,h=>h
 | .i k x,n,v,h=>h
 | .s l,n,v,h=>h
 | .o u,n,v,h=>h
theorem agy:∀(r:List D)(n:Nat)(vals:Nat->Value),(∀j d,(dW r n)[j]? =some d->cu w σ d (vals j))->∀(j:Nat) d,r[j]? =some d->cu w σ d (vals j)
 |[],n,vals,h,j,d,hd=>by simp at hd
 |a::r,n,vals,h,j,d,hd=>by
  cases j with
  |zero=>
   simp at hd;subst hd;exact acw a n _ (h 0 _ rfl)
  |succ j=>exact agy r (n+pz a) (fun i=>vals (i+1)) (fun i d hi=>h (i+1) d (by rw[dW];exact hi)) j d hd
theorem Wu:∀(rs:List (List D))(n:Nat)(vals:Nat->Value),(∀j d,(eP rs n).flatten[j]? =some d->cu w σ d (vals j))->
 (∀e∈rs,∃e'∈eP rs n,e'.length=e.length)/\∀(j:Nat) d,rs.flatten[j]? =some d->cu w σ d (vals j)
 |[],n,vals,h=>⟨fun e he=>(by cases he),fun j d hd=>(by simp at hd)⟩
 |r::rs,n,vals,h=>by
  rw[eP,List.flatten_cons] at h;have h1:=agy r n vals fun j d hd=>h j d (by rw[List.getElem?_append_left (List.getElem?_eq_some_iff.1 hd).1];exact hd);obtain⟨h2,h3⟩:=Wu rs (n+qL r) (fun i=>vals (r.length+i)) fun j d hd=>h (r.length+j) d (by rw[List.getElem?_append_right (by rw[iU];omega),iU,Nat.add_sub_cancel_left];exact hd);refine⟨fun e he=> ?_,fun j d hd=> ?_⟩
  ·rcases List.mem_cons.1 he with e1|he
   ·subst e1;exact⟨_,by rw[eP];exact List.mem_cons_self ..,iU _ _⟩
   ·obtain⟨e',q1,q2⟩:=h2 e he;exact⟨e',by rw[eP];exact List.mem_cons_of_mem _ q1,q2⟩
  ·rw[List.flatten_cons] at hd;by_cases hj:j<r.length
   ·rw[List.getElem?_append_left hj] at hd;exact h1 j d hd
   ·rw[List.getElem?_append_right (by omega)] at hd;have:=h3 (j-r.length) d hd
    rwa [show r.length+(j-r.length)=j by omega] at this
end
theorem Ak{r:List D}{n:Nat}:Less (.agg ((dW r n).map .d)) (.agg (r.map .d)):=by
 rintro w σ S β v ⟨a,ha,hl,hc⟩;rw[List.length_map,iU] at hl;refine⟨a,ha,by rw[List.length_map];exact hl,?_⟩
 have key:∀(r:List D)(n:Nat)(vs:List Value),(∀(j:Nat)(x:C),((dW r n).map C.d)[j]? =some x->∃v:Value,vs[j]? =some v/\fT w σ S β x v/\v.oneCell'=true)->
  ∀(j:Nat)(x:C),(r.map C.d)[j]? =some x->∃v:Value,vs[j]? =some v/\fT w σ S β x v/\v.oneCell'=true:=by
  intro r
  induction r with
  |nil=>intro n vs h j x hx;simp at hx
  |cons d ds ih=>
   intro n vs h j x hx
   cases j with
   |zero=>
    simp at hx;subst hx;obtain⟨v,h1,h2,h3⟩:=h 0 (.d (lC d n)) rfl;exact⟨v,h1,acw d n v h2,h3⟩
   |succ j=>
    have:=ih (n+pz d) vs.tail (fun i y hy=>by
     obtain⟨v,h1,h2⟩:=h (i+1) y (by rw[dW,List.map_cons];exact hy);refine⟨v,?_,h2⟩
     cases vs with
     |nil=>simp at h1
     |cons a b=>exact h1) j x hx
    obtain⟨v,h1,h2⟩:=this;refine⟨v,?_,h2⟩
    cases vs with
    |nil=>simp at h1
    |cons a b=>exact h1
 exact key r n _ hc
theorem MU{r:List D}{n:Nat}{w:World}{σ:Nat->Nat}{S:Store}{β:Hs}{vs:List Value}(h:eX w σ S β ((dW r n).map .d) vs):eX w σ S β (r.map .d) vs:=by
 obtain⟨a,ha,hc⟩:=Ak w σ S β (.agg vs.toArray) ⟨vs.toArray,rfl,by simpa using h⟩;cases ha;simpa using hc
inductive qU:List V->List V->Prop
 |nil:qU [] []
 |cons {x y:V} {xs ys:List V}:Less x y->qU xs ys->qU (x::xs) (y::ys)
theorem qU.length:∀{xs ys:List V},qU xs ys->xs.length=ys.length
 |_,_,.nil=>rfl
 |_,_,.cons _ h=>by rw[List.length_cons,List.length_cons,qU.length h]
theorem qU.at:∀{xs ys:List V},qU xs ys->∀(j:Nat)(x y:V),xs[j]? =some x->ys[j]? =some y->Less x y
 |_,_,.nil,j,x,y,h,_=>by simp at h
 |_,_,.cons a h,0,x,y,h1,h2=>by simp at h1 h2;subst h1;subst h2;exact a
 |_,_,.cons a h,j+1,x,y,h1,h2=>qU.at h j x y (by simpa using h1) (by simpa using h2)
theorem aJ.args{f:FuncId}{args args':List V}{r:V}(h:aJ P f args' r)(hl:qU args args'):aJ P f args r:=fun S=>(h S).weaken hl.length fun j x y hx hy w σ β v hr=>hl.at j x y hx hy w σ S β v hr
theorem wo{dr:Option Nat}{f:FuncId}{args args':List V}{dst:Option Nat}{K:St->Prop}{r:V}(h:aJ P f args' r)(hl:qU (args.map V.rU) args')(hK:K (s.put dst r)):gH P dr f args s dst K:=aA (h.args hl) hK
def acy(row:Bool)(j n:Nat)(es:List (List D))(tm:List (Nat×V)):List (Nat×V):=tm.map fun x=>(x.1,x.2.jQ (C.lab row j n es))
theorem Zl{row:Bool}{j n:Nat}{es:List (List D)}{tm:List (Nat×V)}{t:Nat}:look (acy row j n es tm) t=(look tm t).jQ (C.lab row j n es):=Dh (f:=V.jQ (C.lab row j n es)) rfl tm t
def Wv(j n:Nat)(tm:List (Nat×V))(own:List Obj)(Ω:Store):Option Obj->St
 |some (.dN _ es)=>⟨acy true j n es tm,(own.map (Obj.jQ (C.lab true j n es))).set j .dead::Ω⟩
 |some (.dY m _ es)=>⟨acy false j m es tm,(own.map (Obj.jQ (C.lab false j m es))).set j .dead::Ω⟩
 |_=>⟨tm,own::Ω⟩
def Om(j n:Nat)(s:St):St:=
 match s.st with
 |own::Ω=>Wv j n s.tm own Ω (own[j]?)
 |[]=>s
def Kk:Nat->Nat->St->St
 |0,_,s=>s
 |k+1,n,s=>Kk k n (Om k n s)
def Cq(n:Nat)(s:St):St:=
 match s.st with
 |own::_=>Kk own.length n s
 |[]=>s
theorem SN(j n:Nat)(s:St):fP N s (Om j n s):=by
 obtain⟨tm,st⟩:=s
 cases st with
 |nil=>exact fP.refl _ _
 |cons own Ω=>
  show fP N ⟨tm,own::Ω⟩ (Wv j n tm own Ω (own[j]?))
  cases ho:own[j]? with
  |none=>exact fP.refl _ _
  |some o=>
   cases o with
   |dN z es=>exact fun a w σ β hR=>TM j n z es true ho hR
   |dY m z es=>exact fun a w σ β hR=>TM j m z es false ho hR
   |_=>exact fP.refl _ _
theorem Hw:∀(k n:Nat)(s:St),fP N s (Kk k n s)
 |0,n,s=>fP.refl _ _
 |k+1,n,s=>(SN k n s).trans (Hw k n _)
theorem Al(n:Nat)(s:St):fP N s (Cq n s):=by
 unfold Cq;split
 ·exact Hw _ _ _
 ·exact fP.refl _ _
theorem acz{j n:Nat}{tm:List (Nat×V)}{own:List Obj}{Ω:Store}:Om j n ⟨tm,own::Ω⟩=Wv j n tm own Ω (own[j]?):=rfl
theorem Zm{n:Nat}{tm:List (Nat×V)}{own:List Obj}{Ω:Store}:Cq n ⟨tm,own::Ω⟩=Kk own.length n ⟨tm,own::Ω⟩:=rfl
def Qy(P:Program)(n:Nat)(rs:List ResultVar)(post:V->Store->Prop)(e:Exit)(s:St):Prop:=aax P rs post e (Cq n s)
theorem acA{n:Nat}{rs:List ResultVar}{post:V->Store->Prop}:Qy P n rs post .ret s=PU P rs post (Cq n s):=rfl
theorem SQ{n:Nat}{rs:List ResultVar}{post:V->Store->Prop}:Qy P n rs post .normal s=PU P rs post (Cq n s):=rfl
theorem lN(n:Nat){f:FuncId}{fn:Func}{c:Code}{args:List V}{post:V->Store->Prop}{rs:List ResultVar}(fA:P.follows .mixedOrders=true)(hf:P.funcs[f]? =some fn)(hN:fn.ntmps=N)
 (hb:fn.body=some c) (hn:(fn.name== "runtime.NumGoroutine")=false) (hr:fn.results.toList=rs) (hl:Nat.ble args.length N=true) (hok:codeOk N c=true)
 (h:CW P N c (Qy P n rs post) ⟨jZ (args.map (V.up 1)) 0,[.seed n]::S⟩):bJ P f args S post:=by
 subst hN;subst hr;exact oW hf hb hn (Nat.le_of_ble_eq_true hl) (Lj n (zQ (Al n) (iY fA c _ _ hok h)))
theorem acB{row:Bool}{j n l i:Nat}{es es':List (List D)}:C.lab row j n es (.bK (1+l,i) es')=.bK (1+l,i) es':=by rw[Nat.add_comm];rfl
theorem acC{row:Bool}{j n i:Nat}{es es':List (List D)}:C.lab row j n es (.bK (0,i) es')=if i=j/\row=false/\es'.length=es.length then .d (.ol n es) else .bK (0,i) es':=rfl
theorem acD{row:Bool}{j n l i:Nat}{es:List (List D)}:C.lab row j n es (.gQ (1+l,i))=.gQ (1+l,i):=by rw[Nat.add_comm];rfl
theorem acE{row:Bool}{j n i:Nat}{es:List (List D)}:C.lab row j n es (.gQ (0,i))=if i=j/\row=true then .d (.ol n es) else .gQ (0,i):=rfl
theorem aif{row:Bool}{j n:Nat}{es:List (List D)}{x:D}:C.lab row j n es (.d x)=.d x:=rfl
theorem aeX{row:Bool}{j n:Nat}{es:List (List D)}:C.lab row j n es .any=.any:=rfl
theorem aeY{row:Bool}{j n:Nat}{es es':List (List D)}:C.lab row j n es (.bE es')=.bE es':=rfl
theorem aeZ{row:Bool}{j n m:Nat}{es es':List (List D)}:C.lab row j n es (.jw m es')=.jw m es':=rfl
theorem ae0{row:Bool}{j n off:Nat}{es:List (List D)}{k:Key}:C.lab row j n es (.ptr k off)=.ptr k off:=rfl
theorem agz{row:Bool}{j n f:Nat}{es:List (List D)}{caps:List (Key×Nat)}:C.lab row j n es (.fn f caps)=.fn f caps:=rfl
theorem acF{row:Bool}{j n:Nat}{es:List (List D)}{cs:List D}:C.lab row j n es (.kT cs)=.kT cs:=rfl
theorem Qz{ι:Type}{ts:List Nat}{f:ι->List V}{g:ι->Store}{p:ι->Prop}{μ:ι->Nat}{i:ι}{tm:List (Nat×V)}{own:List Obj}{Ω:Store}{m:Nat}(m' n:Nat)(hnd:ts.Nodup)(j:ι)(h1:μ j<μ i)(h2:ts.map (look tm)=f j)(h3:(Obj.seed m'::own.take n)::Ω=g j)
 (hr:nk (n+1) (jk ts (f j))=true)(ho:(own.take n).all (Obj.refs (n+1))=true)(h4:p j):Inv N ts f g p μ i ⟨tm,(.seed m::own)::Ω⟩:=by
 refine⟨j,⟨jk ts (f j),(.seed m'::own.take n)::Ω⟩,h1,?_,?_,h3,h4⟩
 ·have hg:fP N ⟨tm,(.seed m::own)::Ω⟩ ⟨jk ts (f j),(.seed m::own)::Ω⟩:=by
   rw[<-h2];exact Il fun t=>wT _ ts t
  refine hg.trans ((Jw (n+1) hr ?_).trans (zP m'));rw[List.take_succ_cons,List.all_cons,ho];rfl
 ·exact zU ts (f j) hnd (by rw[<-h2];simp)
end
attribute [go_sem ↓] acA SQ Zm
attribute [go_sem] Kk acz Wv Zl V.jQ Obj.jQ acB acC acD acE aif aeX aeY aeZ ae0 agz acF
section
variable {P:Program} {N:Nat} {S:Store} {s:St} {tm:List (Nat×V)}
end
theorem Ww{P:Program}{N:Nat}(n:Nat){f:FuncId}{fn:Func}{c:Code}{args:List V}{bD:List Obj}{Ω:Store}{post:V->Store->Prop}{rs:List ResultVar}(fA:P.follows .mixedOrders=true)(hf:P.funcs[f]? =some fn)(hN:fn.ntmps=N)
 (hb:fn.body=some c) (hn:(fn.name== "runtime.NumGoroutine")=false) (hr:fn.results.toList=rs) (hl:Nat.ble args.length N=true) (hok:codeOk N c=true)
 (h:CW P N c (P7 P rs post) ⟨jZ (args.map (V.up 1)) 0,[.seed n]::bD::Ω⟩):bJ P f args (bD::Ω) post:=by
 subst hN;subst hr;exact MC hf hb hn (Nat.le_of_ble_eq_true hl) (Lj n (iY fA c _ _ hok h))
theorem QA{P:Program}{N:Nat}{c:Code}{Q:Exit->St->Prop}{tm:List (Nat×V)}{Ω:Store}(n k:Nat)(h:AW P N c Q ⟨tm,[.seed n,.seed k]::Ω⟩):AW P N c Q ⟨tm,[]::Ω⟩:=by
 refine Lj n (kD h fun a w σ β hR=> ?_);obtain⟨bo,bΩ,rfl,hlen⟩:=frames hR;obtain⟨hS',hk,hst⟩:=hR.S.push (o:=.seed k) (h:=undef) (Grow.refl hR.S.live) hlen trivial (fun b hb=>by cases hb);exact⟨σ,_,⟨hR.size,hR.defers,hS',fun u=>(hR.T u).mono (dQ.refl _ _) hk⟩,hst,Keep.refl _ _⟩
section
variable {P:Program} {N:Nat} {S:Store}
theorem Kl(n k:Nat){f:FuncId}{fn:Func}{c:Code}{args:List V}{post:V->Store->Prop}{rs:List ResultVar}(fA:P.follows .mixedOrders=true)(hf:P.funcs[f]? =some fn)(hN:fn.ntmps=N)
 (hb:fn.body=some c) (hn:(fn.name== "runtime.NumGoroutine")=false) (hr:fn.results.toList=rs) (hl:Nat.ble args.length N=true) (hok:codeOk N c=true)
 (h:CW P N c (Qy P n rs post) ⟨jZ (args.map (V.up 1)) 0,[.seed n,.seed k]::S⟩):bJ P f args S post:=by
 subst hN;subst hr;exact oW hf hb hn (Nat.le_of_ble_eq_true hl) (QA n k (zQ (Al n) (iY fA c _ _ hok h)))
end
section
variable {P:Program} {w w':World} {σ σ':Nat->Nat} {S:Store} {β:Hs}
def p9(w:World)(σ:Nat->Nat)(lo hi b:Nat):Prop:=∃c t fz m,w.heap[b]? =some (.cells c t fz)/\σ b=c.size+1+m/\lo<=m/\m<hi
theorem p9.mono{lo hi lo' hi' b:Nat}(h:p9 w σ lo hi b)(h1:lo'<=lo)(h2:hi<=hi'):p9 w σ lo' hi' b:=by
 obtain⟨c,t,fz,m,a1,a2,a3,a4⟩:=h;exact⟨c,t,fz,m,a1,a2,by omega,by omega⟩
theorem p9.apart{lo hi lo' hi' b:Nat}(h:p9 w σ lo hi b)(h':p9 w σ lo' hi' b)(ho:hi<=lo'):False:=by
 obtain⟨c,t,fz,m,a1,a2,a3,a4⟩:=h;obtain⟨c',t',OQ,m',b1,b2,b3,b4⟩:=h';rw[a1] at b1;cases b1;omega
abbrev Kids:=List (List (Option Value))
def lV(rows:Kids)(i o:Nat):Option Value:=((rows[i]?).bind fun r=>r[o]?).bind id
def adJ(rows:Kids):Array Value:=(rows.map fun r=>Value.tuple (r.map fun u=>u.getD (.bool false)).toArray).toArray
def mkT(v:Value)(rows:Kids):Value:=.tuple #[v,.tuple (adJ rows)]
theorem T9{v:Value}{rows:Kids}:hdr (mkT v rows)=some v:=rfl
def IsT(v:Value):Prop:=∃a,v=.tuple a
theorem LU{v:Value}{rows:Kids}(h:∀i o u,lV rows i o=some u->IsT u)(i o:Nat):kid (mkT v rows) i o=lV rows i o:=by
 have h':=h i o
 unfold kid mkT adJ lV at *
 simp only[List.getElem?_toArray,List.getElem?_cons_succ,List.getElem?_cons_zero,List.getElem?_map]
 cases hr:rows[i]? with
 |none=>rfl
 |some r=>
  rw[hr] at h';simp only[Option.map_some,List.getElem?_toArray,List.getElem?_map]
  cases hu:r[o]? with
  |none=>simp[hu]
  |some u=>
   simp only[Option.bind_some,hu,id] at h'
   cases u with
   |none=>simp[hu]
   |some u=>
    obtain⟨a,rfl⟩:=h' u rfl;simp[hu]
def Oo(w:World)(d:D)(v:Value)(u:Option Value):Prop:=
 match d with
 | .sl es=>∃T,u=some T/\IsT T/\hdr T=some v/\ow w es T
 |d=>u=none/\SD d v
theorem Iy{z:Nat}:∀{rs:List (List D)}{n:Nat},(∀r∈eP rs n,r.length=z)->∀r∈rs,r.length=z
 |[],_,_,r,h=>by cases h
 |a::rs,n,ha,r,h=>by
  rw[eP] at ha;rcases List.mem_cons.1 h with e|h
  ·subst e;rw[<-iU r n];exact ha _ (by simp)
  ·exact Iy (n:=n+qL a) (fun r hr=>ha r (by simp[hr])) r h
structure ajF(w:World)(σ:Nat->Nat)(r:List D)(n m:Nat)(vals:Nat->Value)(us:List (Option Value)):Prop where
 len:us.length=r.length
 cell:∀(j:Nat)(d:D),r[j]? =some d->∃u,us[j]? =some u/\Oo w d (vals j) u
 own:∀(j:Nat)(u:Value),us[j]? =some (some u)->∀b,kU u b->p9 w σ n m b
 apart:∀(j j':Nat)(u u':Value)(b:Nat),j≠j'->us[j]? =some (some u)->us[j']? =some (some u')->kU u b->kU u' b->False
structure aii(w:World)(σ:Nat->Nat)(z:Nat)(rs:List (List D))(n m:Nat)(vals:Nat->Value)(U:Kids):Prop where
 cell:∀(i o:Nat)(d:D),cellAt rs i o=some d->∃u,((U[i]?).bind fun r=>r[o]?)=some u/\Oo w d (vals (i*z+o)) u
 kid:∀(i o:Nat)(u:Value),lV U i o=some u->∃es,cellAt rs i o=some (.sl es)
 own:∀(i o:Nat)(u:Value),lV U i o=some u->∀b,kU u b->p9 w σ n m b
 apart:∀(i o i' o':Nat)(u u':Value)(b:Nat),(i,o)≠(i',o')->lV U i o=some u->lV U i' o'=some u'->kU u b->kU u' b->False
theorem wu{us:List (Option Value)}{U:Kids}{o:Nat}{u:Value}:lV (us::U) 0 o=some u<->us[o]? =some (some u):=by
 show(us[o]?).bind id=some u<->_
 cases us[o]? with
 |none=>simp
 |some x=>simp
mutual
theorem aij:∀(d:D)(n:Nat)(v:Value),nM d=true->cu w σ (lC d n) v->∃u,Oo w d v u/\∀T,u=some T->∀b,kU T b->p9 w σ n (n+pz d) b
 | .sl es,n,v,hp,h=>by
   rw[lC] at h;have hl:=jU es (n+1);have hrec:=Zn es (n+1);have hrow:=fun z=>Iy (z:=z) (rs:=es) (n:=n+1);generalize eP es (n+1)=q at h hl hrec hrow
   have hempty:∀a cap,es=[]->v=.slice a 0 cap->∃u,Oo w (.sl es) v u/\∀T,u=some T->∀b,kU T b->p9 w σ n (n+pz (.sl es)) b:=by
    rintro a cap rfl rfl
    have hk:∀i o,kid (mkT (.slice a 0 cap) []) i o=none:=fun i o=>by rw[LU (fun i o u h=>by simp[lV] at h)];simp[lV]
    refine⟨some (mkT (.slice a 0 cap) []),⟨_,rfl,⟨_,rfl⟩,rfl,.nil a cap _ rfl hk⟩,fun T hT b hb=> ?_⟩;cases hT;exfalso
    cases hb with
    |here h1 h2=>rw[T9] at h1;cases h1;omega
    |kid h1 h2=>rw[hk] at h1;cases h1
   cases h with
   |oU n a cap=>exact hempty a cap (List.eq_nil_of_length_eq_zero (by simpa using hl.symm)) rfl
   |ol n b off cap z q vals c t hcap hlen hb hσ hfit hc hv hx=>
    by_cases hne:es=[]
    ·subst hne
     have hq0:q.length=0:=by simpa using hl
     exact hempty _ _ rfl (by rw[hq0])
    rw[hl] at hcap hfit hc ⊢;obtain⟨U,hU⟩:=hrec z vals (hrow z hlen) (by simpa [nM] using hp) hv;have hrl:=hrow z hlen
    have hT:∀i o u,lV U i o=some u->IsT u:=fun i o u hu=>by
     obtain⟨es',he⟩:=hU.kid i o u hu;obtain⟨u',h1,h2⟩:=hU.cell i o _ he;obtain⟨T,h3,h4,_⟩:=h2;unfold lV at hu;rw[h1,h3] at hu;cases hu;exact h4
    have rG:∀i o,kid (mkT (.slice (some ⟨b,off,none⟩) es.length cap) U) i o=lV U i o:=LU hT
    have hcell:∀i o es',cellAt es i o=some (.sl es')->∃T,lV U i o=some T/\hdr T=some (vals (i*z+o))/\ow w es' T:=fun i o es' he=>by
     obtain⟨u',h1,T,h3,h4,h5,h6⟩:=hU.cell i o _ he;refine⟨T,?_,h5,h6⟩;unfold lV;rw[h1,h3];rfl
    have hself:∀x,p9 w σ (n+1) (n+1+nG es) x->x≠b:=by
     rintro x ⟨c',t',OQ,m,a1,a2,a3,a4⟩ rfl;rw[hb] at a1;cases a1;omega
    refine⟨some (mkT (.slice (some ⟨b,off,none⟩) es.length cap) U),⟨_,rfl,⟨_,rfl⟩,rfl,?_⟩,fun T hT' x hx=> ?_⟩
    ·refine .mk b off cap z es _ c t (fun i o=>vals (i*z+o)) (fun i o=>(lV U i o).getD undef) rfl hne hcap hrl hb hfit (fun i o d hd=> ?_) (fun i o d hd=> ?_) (fun i o es' he=> ?_) (fun i o es' he=> ?_) (fun i o u hu hb'=> ?_) (fun i o i' o' u u' x hio hu hu' h1 h2=> ?_) (fun i o u hu=> ?_)
     ·obtain⟨hi,ho⟩:=wP hd;rw[hrl _ (List.getElem_mem hi)] at ho;refine hc _ ?_;have:(i+1)*z<=es.length*z:=Nat.mul_le_mul_right _ hi;rw[Nat.add_mul,Nat.one_mul] at this;omega
     ·obtain⟨u,h1,h2⟩:=hU.cell i o d hd
      cases d<;>first|exact .inl ⟨_,rfl⟩|exact .inr h2.2
     ·obtain⟨T,h1,h2,h3⟩:=hcell i o es' he;rw[rG,h1];exact⟨rfl,h2⟩
     ·obtain⟨T,h1,h2,h3⟩:=hcell i o es' he;rw[h1];exact h3
     ·rw[rG] at hu;exact hself b (hU.own i o u hu b hb') rfl
     ·rw[rG] at hu hu';exact hU.apart i o i' o' u u' x hio hu hu' h1 h2
     ·rw[rG] at hu;exact hU.kid i o u hu
    ·cases hT'
     cases hx with
     |here h1 h2=>rw[T9] at h1;cases h1;exact⟨c,t,(0,0),n,hb,hσ,Nat.le_refl _,by rw[pz];omega⟩
     |kid h1 h2=>
      rw[rG] at h1;exact(hU.own _ _ _ h1 _ h2).mono (by omega) (by rw[pz];omega)
 | .ol m es,n,v,hp,h=>by simp[nM] at hp
 | .b x,n,v,hp,h=>by rw[lC] at h;cases h;exact⟨none,⟨rfl,rfl⟩,fun T h=>by cases h⟩
 | .i k x,n,v,hp,h=>by rw[lC] at h;cases h;exact⟨none,⟨rfl,rfl⟩,fun T h=>by cases h⟩
 | .s l,n,v,hp,h=>by rw[lC] at h;cases h;exact⟨none,⟨rfl,rfl⟩,fun T h=>by cases h⟩
 | .o u,n,v,hp,h=>by simp[nM] at hp
theorem Wx:∀(r:List D)(n:Nat)(vals:Nat->Value),iM r=true->(∀(j:Nat)(d:D),(dW r n)[j]? =some d->cu w σ d (vals j))->∃us,ajF w σ r n (n+qL r) vals us
 |[],n,vals,hp,h=>⟨[],rfl,fun j d h=>by simp at h,fun j u h=>by simp at h,fun j j' u u' b _ h=>by simp at h⟩
 |d::r,n,vals,hp,h=>by
  rw[iM,Bool.and_eq_true] at hp;rw[dW] at h;obtain⟨u,h1,h2⟩:=aij d n (vals 0) hp.1 (h 0 _ rfl);obtain⟨us,wJ⟩:=Wx r (n+pz d) (fun j=>vals (j+1)) hp.2 fun j x hx=>h (j+1) x hx;rw[qL];have hown:∀(j:Nat)(T:Value),us[j]? =some (some T)->∀b,kU T b->p9 w σ (n+pz d) (n+pz d+qL r) b:=wJ.own;refine⟨u::us,by rw[List.length_cons,List.length_cons,wJ.len],fun j x hx=> ?_,fun j T hT b hb=> ?_,fun j j' T T' b hj hT hT' hb hb'=> ?_⟩
  ·cases j with
   |zero=>simp at hx;subst hx;exact⟨u,rfl,h1⟩
   |succ j=>exact wJ.cell j x hx
  ·cases j with
   |zero=>simp at hT;exact(h2 T hT b hb).mono (Nat.le_refl _) (by omega)
   |succ j=>exact(hown j T hT b hb).mono (by omega) (by omega)
  ·cases j with
   |zero=>
    cases j' with
    |zero=>exact hj rfl
    |succ j'=>simp at hT;exact(h2 T hT b hb).apart (hown j' T' hT' b hb') (Nat.le_refl _)
   |succ j=>
    cases j' with
    |zero=>simp at hT';exact(h2 T' hT' b hb').apart (hown j T hT b hb) (Nat.le_refl _)
    |succ j'=>exact wJ.apart j j' T T' b (by omega) hT hT' hb hb'
theorem Zn:∀(rs:List (List D))(n z:Nat)(vals:Nat->Value),(∀r∈rs,r.length=z)->iZ rs=true->(∀(j:Nat)(d:D),(eP rs n).flatten[j]? =some d->cu w σ d (vals j))->∃U,aii w σ z rs n (n+nG rs) vals U
 |[],n,z,vals,hz,hp,h=>⟨[],fun i o d h=>by simp[cellAt] at h,fun i o u h=>by simp[lV] at h,fun i o u h=>by simp[lV] at h,fun i o i' o' u u' b _ h=>by simp[lV] at h⟩
 |r::rs,n,z,vals,hz,hp,h=>by
  rw[iZ,Bool.and_eq_true] at hp;rw[eP,List.flatten_cons] at h;have hrz:r.length=z:=hz r (by simp);obtain⟨us,wJ⟩:=Wx r n vals hp.1 fun j d hd=>h j d (by rw[List.getElem?_append_left (List.getElem?_eq_some_iff.1 hd).1];exact hd)
  obtain⟨U,hU⟩:=Zn rs (n+qL r) z (fun j=>vals (z+j)) (fun r hr=>hz r (by simp[hr])) hp.2 fun j d hd=>h (z+j) d (by
   rw[List.getElem?_append_right (by rw[iU];omega),iU,hrz,Nat.add_sub_cancel_left];exact hd)
  rw[nG];have hown:∀(i o:Nat)(T:Value),lV U i o=some T->∀b,kU T b->p9 w σ (n+qL r) (n+qL r+nG rs) b:=hU.own;refine⟨us::U,fun i o d hd=> ?_,fun i o u hu=> ?_,fun i o T hT b hb=> ?_,fun i o i' o' T T' b hio hT hT' hb hb'=> ?_⟩
  ·cases i with
   |zero=>
    obtain⟨u,h1,h2⟩:=wJ.cell o d hd;exact⟨u,h1,by rw[Nat.zero_mul,Nat.zero_add];exact h2⟩
   |succ i=>
    obtain⟨u,h1,h2⟩:=hU.cell i o d hd;exact⟨u,h1,by rw[show(i+1)*z+o=z+(i*z+o) by rw[Nat.add_mul];omega];exact h2⟩
  ·cases i with
   |zero=>
    rw[wu] at hu
    have ho:o<r.length:=by rw[<-wJ.len];exact(List.getElem?_eq_some_iff.1 hu).1
    obtain⟨u',h1,h2⟩:=wJ.cell o r[o] (List.getElem?_eq_getElem ho);rw[hu] at h1;cases h1;have hc:cellAt (r::rs) 0 o=some r[o]:=List.getElem?_eq_getElem ho;rw[hc];generalize r[o]=d at h2
    cases d<;>first|exact⟨_,rfl⟩|(cases h2.1)
   |succ i=>exact hU.kid i o u hu
  ·cases i with
   |zero=>rw[wu] at hT;exact(wJ.own o T hT b hb).mono (Nat.le_refl _) (by omega)
   |succ i=>exact(hown i o T hT b hb).mono (by omega) (by omega)
  ·cases i with
   |zero=>
    rw[wu] at hT
    cases i' with
    |zero=>rw[wu] at hT';exact wJ.apart o o' T T' b (fun e=>hio (by rw[e])) hT hT' hb hb'
    |succ i'=>exact(wJ.own o T hT b hb).apart (hown i' o' T' hT' b hb') (Nat.le_refl _)
   |succ i=>
    cases i' with
    |zero=>rw[wu] at hT';exact(wJ.own o' T' hT' b hb').apart (hown i o T hT b hb) (Nat.le_refl _)
    |succ i'=>exact hU.apart i o i' o' T T' b (fun e=>hio (by cases e;rfl)) hT hT' hb hb'
end
end
section
variable {P:Program} {w w':World} {σ σ':Nat->Nat} {S:Store} {β:Hs}
def Km:D->List (List D)
 | .sl es=>es
 |_=>[]
def adL(k:Key)(j:Nat):D->C
 | .sl _=>.xp k j []
 |d=>.d d
def Iz(k:Key):Nat->List D->List C
 |_,[]=>[]
 |j,d::ds=>adL k j d::Iz k (j+1) ds
theorem BI{k:Key}:∀(j:Nat)(r:List D),(Iz k j r).length=r.length
 |_,[]=>rfl
 |j,d::ds=>by rw[Iz,List.length_cons,BI,List.length_cons]
theorem Ua{k:Key}:∀(r:List D)(j i:Nat),(Iz k j r)[i]? =(r[i]?).map (adL k (j+i))
 |[],j,i=>by simp[Iz]
 |d::ds,j,0=>rfl
 |d::ds,j,i+1=>by
  rw[Iz,List.getElem?_cons_succ,List.getElem?_cons_succ,Ua ds (j+1) i,show j+1+i=j+(i+1) by omega]
def Wy:C->C
 | .d x=>.d x
 | .bE es=>.d (.sl es)
 | .bK _ es=>.d (.sl es)
 | .jw n es=>.d (.ol n es)
 | .kT cs=>.kT cs
 |_=>.any
def Gs:V->V
 | .c x=>.c (Wy x)
 | .agg cs=>.agg (cs.map Wy)
 |_=>.any
theorem MV{c:C}{v:Value}(h:fT w σ S β c v)(S':Store)(β':Hs):fT w σ S' β' (Wy c) v:=by
 cases c with
 |d x=>exact h
 |bE es=>exact h.1
 |bK k es=>exact h.1
 |jw n es=>exact h.1
 |kT cs=>exact h
 |_=>trivial
theorem IB{x:V}{v:Value}(h:cB w σ S β x v)(S':Store)(β':Hs):cB w σ S' β' (Gs x) v:=by
 cases x with
 |c x=>exact⟨MV h.1 _ _,h.2⟩
 |agg cs=>
  obtain⟨a,ha,hl,hc⟩:=h;refine⟨a,ha,by rw[List.length_map];exact hl,fun i x hx=> ?_⟩;rw[List.getElem?_map] at hx
  cases hi:cs[i]? with
  |none=>rw[hi] at hx;cases hx
  |some y=>
   rw[hi] at hx;cases hx;obtain⟨u,q1,q2,q3⟩:=hc i y hi;exact⟨u,q1,MV q2 _ _,q3⟩
 |_=>trivial
theorem Kn(hl:∀b,b<w.heap.size\/σ b=0)(hg:Br w σ):dL w σ [] [] where
 rH:=hg
 obj:=fun k o h=>by rw[ng] at h;cases h
 apart:=fun k k' o o' h h' b h1=>by rw[ng] at h1;cases h1
 shape:=⟨rfl,fun l fr h=>by simp at h⟩
 live:=hl
theorem Gt{β:Hs}{b:Nat}:¬Own [] β b:=fun⟨k,o,h,h1,_⟩=>by rw[ng] at h1;cases h1
def agB(mk:List C->V)(m:Nat):Prop:=∀w σ S β cs v,cs.length=m->cB w σ S β (mk cs) v->∃vs,eX w σ S β cs vs/\∀w' σ' S' β' cs',cs'.length=m->eX w' σ' S' β' cs' vs->cB w' σ' S' β' (mk cs') v
def Am:Value:=mkT (.slice none 0 0) []
theorem MW(i o:Nat):kid Am i o=none:=by
 unfold Am;rw[LU (fun i o u h=>by simp[lV] at h)];simp[lV]
theorem Dz{b:Nat}:¬kU Am b:=fun h=>by
 cases h with
 |here h1 h2=>cases h1
 |kid h1 h2=>rw[MW] at h1;cases h1
theorem IC(σ:Nat->Nat):∀n:Nat,∃m,∀b,b<n->σ b<=m
 |0=>⟨0,fun b h=>by omega⟩
 |n+1=>by
  obtain⟨m,hm⟩:=IC σ n;refine⟨max m (σ n),fun b hb=> ?_⟩;by_cases e:b=n
  ·subst e;omega
  ·have:=hm b (by omega);omega
open Classical in
theorem bJ.own{f:FuncId}{args:List V}{bD:List Obj}{Ω:Store}{mk:List C->V}{r:List D}(hm:agB mk r.length)(hp:iM r=true)
 (h:∀n,aJ P f (args.map Gs) (mk ((dW r n).map .d))):
 bJ P f args (bD::Ω) (fun r' S'=>r'=mk (Iz (0,bD.length) 0 r)/\S'=(bD++[.xf (r.map Km)])::Ω):=by
 refine⟨(h 0 []).1,fun w σ β vs hS hargs=> ?_⟩;obtain⟨n,hn⟩:=IC σ w.heap.size
 have Ko:nZ w σ [] [] (args.map Gs) vs:=by
  refine⟨by rw[List.length_map];exact hargs.1,fun j x hx=> ?_⟩;rw[List.getElem?_map] at hx
  cases ha:args[j]? with
  |none=>rw[ha] at hx;cases hx
  |some y=>
   rw[ha] at hx;cases hx;obtain⟨v,h1,h2⟩:=hargs.2 j y ha;exact⟨v,h1,IB h2 _ _⟩
 refine((h n []).2 w σ [] vs (Kn hS.live hS.rH) Ko).mono fun e w' ⟨v,r',S',σ',β',he,hS',hk,hst,hv,hr',hS2⟩=> ?_;subst hr';subst hS2;obtain⟨us0,hcs,hback⟩:=hm w' σ' _ β' _ v (by rw[List.length_map,iU]) hv
 have ajG:us0.length=r.length:=by rw[<-hcs.1,List.length_map,iU]
 obtain⟨us,wJ⟩:=Wx r n (fun j=>us0.getD j undef) hp (fun j d hd=>by
  obtain⟨u,h1,h2,_⟩:=hcs.2 j (.d d) (by rw[List.getElem?_map,hd];rfl);simp only[List.getD_eq_getElem?_getD,h1,Option.getD_some]
  exact h2)
 let h0:Value:=.tuple (us.map fun u=>u.getD Am).toArray
 have hroot:∀j,tX h0 j=(us[j]?).map fun u=>u.getD Am:=fun j=>by simp[h0,tX]
 have hfresh:∀b,Az h0 b->w.heap.size<=b:=by
  rintro b ⟨j,T,h1,h2⟩;rw[hroot] at h1
  cases hu:us[j]? with
  |none=>rw[hu] at h1;cases h1
  |some u=>
   rw[hu] at h1;simp only[Option.map_some,Option.some.injEq] at h1
   cases u with
   |none=>subst h1;exact absurd h2 Dz
   |some u=>
    simp at h1;subst h1;obtain⟨c,t,fz,m,a1,a2,a3,a4⟩:=wJ.own j u hu b h2;refine Nat.le_of_not_lt fun hlt=> ?_;have h1:=(hst.far b hlt Gt).2;have h2:=hn b hlt;omega
 let σ2:Nat->Nat:=fun b=>if Az h0 b then 0 else σ' b
 have hg:Grow w σ w' σ2:=⟨hst.size,hst.os,hst.output,fun b hb=>by
  obtain⟨h1,h2⟩:=hst.far b hb Gt
  exact⟨h1,(if_neg fun hx=>by have:=hfresh b hx;omega).trans h2⟩,fun b=>by
  rcases hS'.live b with hb|hb
  ·exact .inl hb
  ·right;show(if Az h0 b then 0 else σ' b)=0;rw[hb];split<;>rfl⟩
 cases β with
 |nil=>have:=hS.shape.1;simp at this
 |cons bo bΩ=>
 have hlen:bo.length=bD.length:=by
  obtain⟨gr,g1,g2⟩:=hS.shape.2 0 bD rfl;simp at g1;rw[g1];exact g2
 obtain⟨hS3,hk3,acG⟩:=hS.push (o:=.xf (r.map Km)) (h:=h0) hg hlen (by
  refine⟨fun j es hj=> ?_,fun j T hT=> ?_,fun b hb=>if_pos hb,fun j j' T T' x hjj hT hT' hx hx'=> ?_⟩
  ·rw[List.getElem?_map] at hj
   cases hd:r[j]? with
   |none=>rw[hd] at hj;cases hj
   |some d=>
    rw[hd] at hj;simp only[Option.map_some,Option.some.injEq] at hj;subst hj;obtain⟨u,h1,h2⟩:=wJ.cell j d hd;rw[hroot,h1]
    have hsc:(∀es,d≠ .sl es)->∃T,Option.map (fun u=>Option.getD u Am) (some u)=some T/\ow w' (Km d) T:=fun hne=>by
     have hu:u=none:=by cases d<;>first|exact absurd rfl (hne _)|exact h2.1
     have hr0:Km d=[]:=by cases d<;>first|exact absurd rfl (hne _)|rfl
     subst hu;rw[hr0];exact⟨Am,rfl,.nil none 0 _ rfl MW⟩
    cases d with
    |sl es=>obtain⟨T,rfl,_,_,h6⟩:=h2;exact⟨T,rfl,h6⟩
    |_=>exact hsc (fun es e=>by cases e)
  ·rw[List.length_map];rw[hroot] at hT
   cases hu:us[j]? with
   |none=>rw[hu] at hT;cases hT
   |some u=>rw[<-wJ.len];exact(List.getElem?_eq_some_iff.1 hu).1
  ·rw[hroot] at hT hT'
   cases hu:us[j]? with
   |none=>rw[hu] at hT;cases hT
   |some u=>
    cases hu':us[j']? with
    |none=>rw[hu'] at hT';cases hT'
    |some u'=>
     rw[hu] at hT;rw[hu'] at hT';simp only[Option.map_some,Option.some.injEq] at hT hT'
     cases u with
     |none=>subst hT;exact Dz hx
     |some u=>
      cases u' with
      |none=>subst hT';exact Dz hx'
      |some u'=>simp at hT hT';subst hT;subst hT';exact wJ.apart j j' u u' x hjj hu hu' hx hx') (fun b hb=>hfresh b hb)
 refine⟨v,_,_,σ2,(bo++[h0])::bΩ,he,hS3,hk3,acG,?_,rfl,rfl⟩;refine hback _ _ _ _ _ (by rw[BI]) ⟨by rw[BI,ajG],fun j x hx=> ?_⟩;rw[Ua,Nat.zero_add] at hx
 cases hd:r[j]? with
 |none=>rw[hd] at hx;cases hx
 |some d=>
  rw[hd] at hx;simp only[Option.map_some,Option.some.injEq] at hx;obtain⟨u,h1,h2⟩:=wJ.cell j d hd
  have hjl:j<(dW r n).length:=by rw[iU];exact(List.getElem?_eq_some_iff.1 hd).1
  obtain⟨v0,h3,_,h4⟩:=hcs.2 j (.d (dW r n)[j]) (by rw[List.getElem?_map,List.getElem?_eq_getElem hjl];rfl)
  have hv0:us0.getD j undef=v0:=by rw[List.getD_eq_getElem?_getD,h3];rfl
  simp only[hv0] at h2;refine⟨v0,h3,?_,h4⟩
  have hsc:(∀es,d≠ .sl es)->fT w' σ2 ((bD++[.xf (r.map Km)])::Ω) ((bo++[h0])::bΩ) (.d d) v0:=fun hne=>by
   have:SD d v0:=by cases d<;>first|exact absurd rfl (hne _)|exact h2.2
   exact OB this
  cases d with
  |sl es=>
   subst hx;obtain⟨T,rfl,_,h5,_⟩:=h2;refine⟨_,bG _ _ _,fun rs _=>⟨h0,by rw[<-hlen,bG],?_⟩⟩;unfold FZ;rw[hroot,h1];exact h5
  |_=>subst hx;exact hsc (fun es e=>by cases e)
end
section
variable {P:Program} {w w':World} {σ σ':Nat->Nat} {S:Store} {β:Hs}
mutual
theorem ajH{σ2:Nat->Nat}(hs:∀b c t fz,w.heap[b]? =some (.cells c t fz)->c.size<σ b->σ2 b=σ b):∀(d:D)(n:Nat)(v:Value),nM d=true->cu w σ (lC d n) v->cu w σ2 (lC d n) v
 | .sl es,n,v,hp,h=>by
   rw[lC] at h ⊢;have hrec:=adM hs es (n+1);generalize eP es (n+1)=q at h hrec ⊢
   cases h with
   |oU n a cap=>exact .oU n a cap
   |ol n b off cap z q vals c t hcap hlen hb hσ hfit hc hv hx=>exact .ol n b off cap z q vals c t hcap hlen hb ((hs b c t _ hb (by omega)).trans hσ) hfit hc (hrec vals (by simpa [nM] using hp) hv) hx
 | .ol m es,n,v,hp,h=>by simp[nM] at hp
 | .b x,n,v,hp,h=>by rw[lC] at h ⊢;cases h;constructor
 | .i k x,n,v,hp,h=>by rw[lC] at h ⊢;cases h;constructor
 | .s l,n,v,hp,h=>by rw[lC] at h ⊢;cases h;constructor
 | .o u,n,v,hp,h=>by simp[nM] at hp
theorem agE{σ2:Nat->Nat}(hs:∀b c t fz,w.heap[b]? =some (.cells c t fz)->c.size<σ b->σ2 b=σ b):∀(r:List D)(n:Nat)(vals:Nat->Value),iM r=true->(∀(j:Nat)(d:D),(dW r n)[j]? =some d->cu w σ d (vals j))->
 ∀(j:Nat)(d:D),(dW r n)[j]? =some d->cu w σ2 d (vals j)
 |[],n,vals,hp,h,j,d,hd=>by simp[dW] at hd
 |a::r,n,vals,hp,h,j,d,hd=>by
  rw[iM,Bool.and_eq_true] at hp;rw[dW] at h hd
  cases j with
  |zero=>
   simp at hd;subst hd;exact ajH hs a n _ hp.1 (h 0 _ rfl)
  |succ j=>exact agE hs r (n+pz a) (fun i=>vals (i+1)) hp.2 (fun i d hi=>h (i+1) d hi) j d hd
theorem adM{σ2:Nat->Nat}(hs:∀b c t fz,w.heap[b]? =some (.cells c t fz)->c.size<σ b->σ2 b=σ b):∀(rs:List (List D))(n:Nat)(vals:Nat->Value),iZ rs=true->(∀(j:Nat)(d:D),(eP rs n).flatten[j]? =some d->cu w σ d (vals j))->
 ∀(j:Nat)(d:D),(eP rs n).flatten[j]? =some d->cu w σ2 d (vals j)
 |[],n,vals,hp,h,j,d,hd=>by simp[eP] at hd
 |r::rs,n,vals,hp,h,j,d,hd=>by
  rw[iZ,Bool.and_eq_true] at hp;rw[eP,List.flatten_cons] at h hd;by_cases hj:j<(dW r n).length
  ·rw[List.getElem?_append_left hj] at hd;exact agE hs r n vals hp.1 (fun j d hd=>h j d (by rw[List.getElem?_append_left (List.getElem?_eq_some_iff.1 hd).1];exact hd)) j d hd
  ·rw[List.getElem?_append_right (by omega)] at hd;have:=adM hs rs (n+qL r) (fun i=>vals ((dW r n).length+i)) hp.2 (fun j d hd=>h _ d (by rw[List.getElem?_append_right (by omega),Nat.add_sub_cancel_left];exact hd)) (j-(dW r n).length) d hd
   rwa [show(dW r n).length+(j-(dW r n).length)=j by omega] at this
end
theorem ow.data{es:List (List D)}{T v:Value}(h:ow w es T)(hv:hdr T=some v)(hσ:∀b c t fz,kU T b->w.heap[b]? =some (.cells c t fz)->c.size<=σ b):cu w σ (.sl es) v:=by
 induction h generalizing v with
 |nil a cap T h hk=>rw[h] at hv;cases hv;exact .nil a cap
 |mk b off cap z es T c t vals kids hh hne hcap hlen hb hfit hc hs hk hx hself hap rG ih=>
  rw[hh] at hv;cases hv;have hpos:0<es.length:=List.length_pos_iff.2 hne;have hfl:=gN es z hlen
  have hidx:∀j,j<es.length*z->∃hi:j/z<es.length,j % z<z/\j/z*z+j % z=j:=fun j hj=>by
   have hz:0<z:=by rcases Nat.eq_zero_or_pos z with h|h;·rw[h] at hj;simp at hj
                   ·exact h
   exact⟨(Nat.div_lt_iff_lt_mul hz).2 hj,Nat.mod_lt _ hz,by rw[Nat.mul_comm];exact Nat.div_add_mod j z⟩
  have hcell:∀j d,es.flatten[j]? =some d->∃hi:j/z<es.length,cellAt es (j/z) (j % z)=some d/\j/z*z+j % z=j:=fun j d hd=>by
   have hj:j<es.length*z:=by rw[<-hfl];exact(List.getElem?_eq_some_iff.1 hd).1
   obtain⟨hi,hm,he⟩:=hidx j hj;refine⟨hi,?_,he⟩;have:=flat_get es z hlen (j/z) (j % z) hi hm;rw[he,hd] at this;unfold cellAt;rw[List.getElem?_eq_getElem hi];exact this.symm
  refine .sl b off cap z es (fun j=>vals (j/z) (j % z)) c t (0,0) hcap hlen hb (Nat.le_trans hfit (hσ b c t _ (.here hh hpos) hb)) (fun j hj=> ?_) (fun j d hd=> ?_)
  ·obtain⟨hi,hce,he⟩:=hcell j _ (List.getElem?_eq_getElem (by rw[hfl];exact hj));have:=hc _ _ _ hce
   rwa [he] at this
  ·obtain⟨hi,hce,he⟩:=hcell j d hd;rcases hs _ _ _ hce with⟨es',rfl⟩|hsd
   ·obtain⟨k1,k2⟩:=hk _ _ _ hce;exact ih _ _ _ hce k2 fun b' c' t' OQ ho hb'=>hσ b' c' t' OQ (.kid k1 ho) hb'
   ·exact OB hsd
end
section
variable {P:Program} {w w':World} {σ σ':Nat->Nat} {S:Store} {β:Hs}
end
def agF(n:Nat)(out:List UInt8):List UInt8:=if h:n=0 then out else agF (n/10) (UInt8.ofNat (48+n % 10)::out)
termination_by n
decreasing_by omega
def aik(k:Int):List UInt8:=if k<=0 then [109,48] else 109::agF k.toNat []
mutual
def Kq:D->Nat
 | .sl es=>DC es
 | .b _=>1
 | .i _ _=>1
 | .s _=>1
 | .o _=>0
 | .ol _ _=>0
def Ub:List D->Nat
 |[]=>0
 |d::ds=>Kq d+Ub ds
def DC:List (List D)->Nat
 |[]=>0
 |r::rs=>Ub r+DC rs
end
mutual
def mkD:D->Int->D
 | .sl es,k=>.sl (Wz es k)
 | .b _,k=>.b (decide (k.tmod 3=0))
 | .i kd _,k=>.i kd k
 | .s _,k=>.s (aik k)
 | .o v,_=>.o v
 | .ol n es,_=>.ol n es
def mkR:List D->Int->List D
 |[],_=>[]
 |d::ds,k=>mkD d k::mkR ds (k+Kq d)
def Wz:List (List D)->Int->List (List D)
 |[],_=>[]
 |r::rs,k=>mkR r k::Wz rs (k+Ub r)
end
mutual
def vo:D->Bool
 | .sl es=>jV es
 | .b _=>true
 | .i _ _=>true
 | .s _=>true
 | .o _=>true
 | .ol _ _=>true
def jB:List D->Bool
 |[]=>true
 |d::ds=>vo d&&jB ds
def jV:List (List D)->Bool
 |[]=>true
 |r::rs=>decide (r.length<=32)&&jB r&&jV rs
end
mutual
theorem ail:∀d:D,vo d=true->Kq d<=32*d.sz+1
 | .sl es,h=>by
   have:=Zo es (by simpa [vo] using h);simp only[Kq,D.sz];omega
 | .b _,_=>by simp[Kq]
 | .i _ _,_=>by simp[Kq]
 | .s _,_=>by simp[Kq]
 | .o _,_=>by simp[Kq]
 | .ol _ _,_=>by simp[Kq]
theorem Zp:∀r:List D,jB r=true->Ub r<=32*bL r+r.length
 |[],_=>by simp[Ub]
 |d::ds,h=>by
  rw[jB,Bool.and_eq_true] at h;have h1:=ail d h.1;have h2:=Zp ds h.2;simp only[Ub,bL,List.length_cons];omega
theorem Zo:∀rs:List (List D),jV rs=true->DC rs<=32*(rs.length+bB rs)
 |[],_=>by simp[DC]
 |r::rs,h=>by
  rw[jV,Bool.and_eq_true,Bool.and_eq_true,decide_eq_true_eq] at h;have h1:=Zp r h.1.2;have h2:=Zo rs h.2;simp only[DC,bB,List.length_cons];omega
end
theorem gJ:∀a b,jB (a++b)=(jB a&&jB b)
 |[],b=>by simp[jB]
 |d::ds,b=>by rw[List.cons_append,jB,jB,gJ ds b,Bool.and_assoc]
theorem kH{α:Type}{f:α->List D}:∀{xs:List α},(∀x∈xs,jB (f x)=true/\(f x).length<=32)->jV (xs.map f)=true
 |[],_=>rfl
 |x::xs,h=>by
  rw[List.map_cons,jV,(h x (by simp)).1,kH fun y hy=>h y (by simp[hy]),decide_eq_true (h x (by simp)).2];rfl
abbrev akE(P:Program)(f:FuncId)(es:List (List D)):Prop:=∀(k:Int)(l j r:Nat)(p:List (Nat×Nat))(S:Store)(rs:List (List (List D))),aW S (l,j)=some (.xf rs)->atR rs r p=some es->0<=k/\k+DC es<=4611686018427387904->
 bJ P f [.c (.xp (l,j) r p),.c (.d (.i .i64 k))] S (fun res S'=>res=.c (.d (.i .i64 (k+DC es)))/\S'=aX S (l,j) (.xf (Ep rs r p (Wz es k))))
abbrev akF(P:Program)(f:FuncId)(es:List (List D)):Prop:=∀(k:Int)(l j r:Nat)(p:List (Nat×Nat))(S:Store)(rs:List (List (List D))),aW S (l,j)=some (.xf rs)->atR rs r p=some (Wz es k)->0<=k/\k+DC es<=4611686018427387904->
 bJ P f [.c (.xp (l,j) r p),.c (.d (.i .i64 k))] S (fun res S'=>res=.c (.d (.i .i64 (k+DC es)))/\S'=S)
section
variable {P:Program} {N:Nat} {c:Code} {Q:Exit->St->Prop} {s:St} {S:Store} {l j r n:Nat} {p:List (Nat×Nat)} {rs:List (List (List D))} {rows:List (List D)} {k:Int}
abbrev akG(l j r:Nat)(p:List (Nat×Nat))(k:Int)(i:Nat):List V:=[.c (.xp (1+l,j) r p),.c (.d (.i .i64 k)),.c (.d (.i .i64 i))]
end
theorem QB:∀row:List D,(row.map C.d).mapM I5=some row
 |[]=>rfl
 |d::row=>by
  have:=QB row;rw[List.map_cons,List.mapM_cons,this];rfl
theorem vv(xs:List (List UInt8)):iZ (xs.map encS)=true:=kG fun _ _=>rfl
theorem vw(xs:List (List UInt8)):jV (xs.map encS)=true:=kH fun _ _=>⟨rfl,by simp[encS]⟩
theorem DF:∀(xs:List (List UInt8))(n:Nat),eP (xs.map encS) n=xs.map encS
 |[],_=>rfl
 |x::xs,n=>by rw[List.map_cons,eP,DF xs];rfl
mutual
theorem au.fF:∀x:au,iM x.enc=true/\jB x.enc=true
 | .mk a0 a1 a2=>by simp only[au.enc,iM,nM,jB,vo,gI,gJ,Bool.and_true,Bool.true_and,Bool.and_self,and_self,and_true,true_and,(au.nV a2).1,(au.nV a2).2]
theorem au.nV:∀xs:List au,iZ (au.encs xs)=true/\jV (au.encs xs)=true
 |[]=>⟨rfl,rfl⟩
 |x::xs=>by
  have h:decide ((au.enc x).length<=32)=true:=by rw[au.bN];rfl
  simp only[au.encs,iZ,jV,h,(au.fF x).1,(au.fF x).2,(au.nV xs).1,(au.nV xs).2,Bool.and_self,and_self]
end
theorem au.iw(xs:List au):iZ (xs.map au.enc)=true/\jV (xs.map au.enc)=true:=by rw[<-au.jo];exact au.nV xs
theorem dH.fF(x:dH):iM x.enc=true/\jB x.enc=true:=by
 rw[dH.aB];simp only[List.cons_append,List.nil_append,iM,nM,jB,vo,gI,gJ,Bool.and_true,Bool.true_and,Bool.and_self,and_self,and_true,true_and,(au.fF x.fType).1,(au.fF x.fType).2]
theorem dH.iw(xs:List dH):iZ (xs.map dH.enc)=true/\jV (xs.map dH.enc)=true:=⟨kG fun x _=>x.fF.1,kH fun x _=>⟨x.fF.2,by rw[dH.bN];decide⟩⟩
theorem aM.fF(x:aM):iM x.enc=true/\jB x.enc=true:=by
 rw[aM.aB];simp only[List.cons_append,List.nil_append,iM,nM,jB,vo,gI,gJ,Bool.and_true,Bool.true_and,Bool.and_self,and_self,and_true,true_and,(au.fF x.fType).1,(au.fF x.fType).2]
theorem aM.iw(xs:List aM):iZ (xs.map aM.enc)=true/\jV (xs.map aM.enc)=true:=⟨kG fun x _=>x.fF.1,kH fun x _=>⟨x.fF.2,by rw[aM.bN];decide⟩⟩
mutual
theorem aC.fF:∀x:aC,iM x.enc=true/\jB x.enc=true
 | .mk a0 a1 a2 a3 a4 a5 a6=>by simp only[aC.enc,iM,nM,jB,vo,gI,gJ,Bool.and_true,Bool.true_and,Bool.and_self,and_self,and_true,true_and,(au.fF a4).1,(au.fF a4).2,(aC.nV a5).1,(aC.nV a5).2,(aP.nV a6).1,(aP.nV a6).2]
theorem aC.nV:∀xs:List aC,iZ (aC.encs xs)=true/\jV (aC.encs xs)=true
 |[]=>⟨rfl,rfl⟩
 |x::xs=>by
  have h:decide ((aC.enc x).length<=32)=true:=by rw[aC.bN];rfl
  simp only[aC.encs,iZ,jV,h,(aC.fF x).1,(aC.fF x).2,(aC.nV xs).1,(aC.nV xs).2,Bool.and_self,and_self]
theorem aP.fF:∀x:aP,iM x.enc=true/\jB x.enc=true
 | .mk a0 a1 a2=>by simp only[aP.enc,iM,nM,jB,vo,gI,gJ,Bool.and_true,Bool.true_and,Bool.and_self,and_self,and_true,true_and,vv a1,vw a1,(aC.fF a2).1,(aC.fF a2).2]
theorem aP.nV:∀xs:List aP,iZ (aP.encs xs)=true/\jV (aP.encs xs)=true
 |[]=>⟨rfl,rfl⟩
 |x::xs=>by
  have h:decide ((aP.enc x).length<=32)=true:=by rw[aP.bN];rfl
  simp only[aP.encs,iZ,jV,h,(aP.fF x).1,(aP.fF x).2,(aP.nV xs).1,(aP.nV xs).2,Bool.and_self,and_self]
end
theorem aC.iw(xs:List aC):iZ (xs.map aC.enc)=true/\jV (xs.map aC.enc)=true:=by rw[<-aC.jo];exact aC.nV xs
theorem aP.iw(xs:List aP):iZ (xs.map aP.enc)=true/\jV (xs.map aP.enc)=true:=by rw[<-aP.jo];exact aP.nV xs
mutual
theorem ah.fF:∀x:ah,iM x.enc=true/\jB x.enc=true
 | .mk a0 a1=>by simp only[ah.enc,iM,nM,jB,vo,gI,gJ,Bool.and_true,Bool.true_and,Bool.and_self,and_self,and_true,true_and,(ah.nV a1).1,(ah.nV a1).2]
theorem ah.nV:∀xs:List ah,iZ (ah.encs xs)=true/\jV (ah.encs xs)=true
 |[]=>⟨rfl,rfl⟩
 |x::xs=>by
  have h:decide ((ah.enc x).length<=32)=true:=by rw[ah.bN];rfl
  simp only[ah.encs,iZ,jV,h,(ah.fF x).1,(ah.fF x).2,(ah.nV xs).1,(ah.nV xs).2,Bool.and_self,and_self]
end
theorem ah.iw(xs:List ah):iZ (xs.map ah.enc)=true/\jV (xs.map ah.enc)=true:=by rw[<-ah.jo];exact ah.nV xs
theorem cK.fF(x:cK):iM x.enc=true/\jB x.enc=true:=by
 rw[cK.aB];simp only[List.cons_append,List.nil_append,iM,nM,jB,vo,gI,gJ,Bool.and_true,Bool.true_and,Bool.and_self,and_self,and_true,true_and,(au.iw x.iC).1,(au.iw x.iC).2,(au.fF x.fQ).1,(au.fF x.fQ).2,vv x.aK,vw x.aK,(aC.fF x.fBody).1,(aC.fF x.fBody).2]
theorem cK.iw(xs:List cK):iZ (xs.map cK.enc)=true/\jV (xs.map cK.enc)=true:=⟨kG fun x _=>x.fF.1,kH fun x _=>⟨x.fF.2,by rw[cK.bN];decide⟩⟩
theorem fC.fF(x:fC):iM x.enc=true/\jB x.enc=true:=by
 rw[fC.aB];simp only[List.cons_append,List.nil_append,iM,nM,jB,vo,gI,gJ,Bool.and_true,Bool.true_and,Bool.and_self,and_self,and_true,true_and,vv x.jS,vw x.jS,(cK.iw x.kW).1,(cK.iw x.kW).2]
theorem fC.iw(xs:List fC):iZ (xs.map fC.enc)=true/\jV (xs.map fC.enc)=true:=⟨kG fun x _=>x.fF.1,kH fun x _=>⟨x.fF.2,by rw[fC.bN];decide⟩⟩
theorem bP.fF(x:bP):iM x.enc=true/\jB x.enc=true:=by
 rw[bP.aB];simp only[List.cons_append,List.nil_append,iM,nM,jB,vo,gI,gJ,Bool.and_true,Bool.true_and,Bool.and_self,and_self,and_true,true_and,(au.iw x.pX).1,(au.iw x.pX).2]
theorem bP.iw(xs:List bP):iZ (xs.map bP.enc)=true/\jV (xs.map bP.enc)=true:=⟨kG fun x _=>x.fF.1,kH fun x _=>⟨x.fF.2,by rw[bP.bN];decide⟩⟩
theorem dx.fF(x:dx):iM x.enc=true/\jB x.enc=true:=by
 rw[dx.aB];simp only[List.cons_append,List.nil_append,iM,nM,jB,vo,gI,gJ,Bool.and_true,Bool.true_and,Bool.and_self,and_self,and_true,true_and,vv x.aK,vw x.aK,(bP.iw x.j4).1,(bP.iw x.j4).2]
theorem dx.iw(xs:List dx):iZ (xs.map dx.enc)=true/\jV (xs.map dx.enc)=true:=⟨kG fun x _=>x.fF.1,kH fun x _=>⟨x.fF.2,by rw[dx.bN];decide⟩⟩
theorem aN.fF(x:aN):iM x.enc=true/\jB x.enc=true:=by
 rw[aN.aB];simp only[List.cons_append,List.nil_append,iM,nM,jB,vo,gI,gJ,Bool.and_true,Bool.true_and,Bool.and_self,and_self,and_true,true_and,vv x.aK,vw x.aK,(aC.fF x.fBody).1,(aC.fF x.fBody).2]
theorem aN.iw(xs:List aN):iZ (xs.map aN.enc)=true/\jV (xs.map aN.enc)=true:=⟨kG fun x _=>x.fF.1,kH fun x _=>⟨x.fF.2,by rw[aN.bN];decide⟩⟩
theorem aH.fF(x:aH):iM x.enc=true/\jB x.enc=true:=by
 rw[aH.aB];simp only[List.cons_append,List.nil_append,iM,nM,jB,vo,gI,gJ,Bool.and_true,Bool.true_and,Bool.and_self,and_self,and_true,true_and,vv x.aK,vw x.aK,(au.fF x.bA).1,(au.fF x.bA).2,(aM.iw x.bR).1,(aM.iw x.bR).2,(au.fF x.bC).1,(au.fF x.bC).2,(aN.iw x.aF).1,(aN.iw x.aF).2]
theorem aH.iw(xs:List aH):iZ (xs.map aH.enc)=true/\jV (xs.map aH.enc)=true:=⟨kG fun x _=>x.fF.1,kH fun x _=>⟨x.fF.2,by rw[aH.bN];decide⟩⟩
theorem eG.fF(x:eG):iM x.enc=true/\jB x.enc=true:=by
 rw[eG.aB];simp only[List.cons_append,List.nil_append,iM,nM,jB,vo,gI,gJ,Bool.and_true,Bool.true_and,Bool.and_self,and_self,and_true,true_and,(au.fF x.fType).1,(au.fF x.fType).2]
theorem eG.iw(xs:List eG):iZ (xs.map eG.enc)=true/\jV (xs.map eG.enc)=true:=⟨kG fun x _=>x.fF.1,kH fun x _=>⟨x.fF.2,by rw[eG.bN];decide⟩⟩
theorem dh.fF(x:dh):iM x.enc=true/\jB x.enc=true:=by
 rw[dh.aB];simp only[List.cons_append,List.nil_append,iM,nM,jB,vo,gI,gJ,Bool.and_true,Bool.true_and,Bool.and_self,and_self,and_true,true_and,vv x.aK,vw x.aK,(aM.iw x.bR).1,(aM.iw x.bR).2,(eG.iw x.iC).1,(eG.iw x.iC).2,(au.fF x.fQ).1,(au.fF x.fQ).2,(aC.fF x.fBody).1,(aC.fF x.fBody).2]
theorem dh.iw(xs:List dh):iZ (xs.map dh.enc)=true/\jV (xs.map dh.enc)=true:=⟨kG fun x _=>x.fF.1,kH fun x _=>⟨x.fF.2,by rw[dh.bN];decide⟩⟩
theorem dV.fF(x:dV):iM x.enc=true/\jB x.enc=true:=by
 rw[dV.aB];simp only[List.cons_append,List.nil_append,iM,nM,jB,vo,gI,gJ,Bool.and_true,Bool.true_and,Bool.and_self,and_self,and_true,true_and,vv x.AU,vw x.AU,(fC.iw x.uV).1,(fC.iw x.uV).2,(dx.iw x.oD).1,(dx.iw x.oD).2,(aH.iw x.oF).1,(aH.iw x.oF).2,(dh.iw x.oG).1,(dh.iw x.oG).2]
theorem dV.iw(xs:List dV):iZ (xs.map dV.enc)=true/\jV (xs.map dV.enc)=true:=⟨kG fun x _=>x.fF.1,kH fun x _=>⟨x.fF.2,by rw[dV.bN];decide⟩⟩
theorem fB.fF(x:fB):iM x.enc=true/\jB x.enc=true:=by
 rw[fB.aB];simp only[List.cons_append,List.nil_append,iM,nM,jB,vo,gI,gJ,Bool.and_true,Bool.true_and,Bool.and_self,and_self,and_true,true_and,(dV.iw x.qp).1,(dV.iw x.qp).2]
theorem fB.iw(xs:List fB):iZ (xs.map fB.enc)=true/\jV (xs.map fB.enc)=true:=⟨kG fun x _=>x.fF.1,kH fun x _=>⟨x.fF.2,by rw[fB.bN];decide⟩⟩
theorem dw.fF(x:dw):iM x.enc=true/\jB x.enc=true:=by
 rw[dw.aB];simp only[List.cons_append,List.nil_append,iM,nM,jB,vo,gI,gJ,Bool.and_true,Bool.true_and,Bool.and_self,and_self,and_true,true_and]
theorem dw.iw(xs:List dw):iZ (xs.map dw.enc)=true/\jV (xs.map dw.enc)=true:=⟨kG fun x _=>x.fF.1,kH fun x _=>⟨x.fF.2,by rw[dw.bN];decide⟩⟩
theorem Zq(b:UInt8):decide (firstIdx ⟨[39,45,43,42,60,61,46].toArray⟩ b>=0)=decide (b∈([39,45,43,42,60,61,46]:List UInt8)):=by
 have h:∀n:Nat,n<256->decide (firstIdx ⟨[39,45,43,42,60,61,46].toArray⟩ (UInt8.ofNat n)>=0)=decide (UInt8.ofNat n∈([39,45,43,42,60,61,46]:List UInt8)):=by decide +kernel
 have h1:=h b.toNat (UInt8.toNat_lt b)
 rwa [UInt8.ofNat_toNat] at h1
theorem acH(b:UInt8):b∈([39,45,43,42,60,61,46]:List UInt8)<->(b.toNat=39\/b.toNat=45\/b.toNat=43\/b.toNat=42\/b.toNat=60\/b.toNat=61\/b.toNat=46):=by
 have h:∀n:Nat,n<256->(UInt8.ofNat n∈([39,45,43,42,60,61,46]:List UInt8)<->(n=39\/n=45\/n=43\/n=42\/n=60\/n=61\/n=46)):=by decide +kernel
 have h1:=h b.toNat (UInt8.toNat_lt b)
 rwa [UInt8.ofNat_toNat] at h1
theorem sM(b:UInt8):jF b=true<->(97<=b.toNat/\b.toNat<=122)\/(48<=b.toNat/\b.toNat<=57)\/b.toNat=39\/b.toNat=45\/b.toNat=43\/b.toNat=42\/b.toNat=60\/b.toNat=61\/b.toNat=46:=by
 unfold jF;rw[Bool.or_eq_true,Bool.or_eq_true,decide_eq_true_eq,decide_eq_true_eq,decide_eq_true_eq,acH,or_assoc]
theorem all_false{s:List UInt8}{i:Nat}(hi:i<s.length)(h:jF s[i]=false):s.all jF=false:=by
 rw[List.all_eq_false];exact⟨s[i],List.getElem_mem hi,by simp[h]⟩
theorem all_true{s:List UInt8}(h:∀j (hj:j<s.length),jF s[j]=true):s.all jF=true:=by
 rw[List.all_eq_true];intro b hb;obtain⟨j,hj,e⟩:=List.getElem_of_mem hb;rw[<-e];exact h j hj
theorem zA{x:ah}{i:Nat}(hi:i<x.aj.length)(h:x.sz<=67108864):x.aj[i].sz<=67108864/\x.aj.length<=67108864/\x.aU.length<=67108864:=by
 have:=jP (List.getElem_mem hi);rw[iB,jE] at h;omega
theorem Cr{x:ah}(h:x.sz<=67108864):x.aj.length<=67108864/\x.aU.length<=67108864:=by
 rw[iB,jE] at h;omega
theorem SS{l:List ah}{i:Nat}(hi:i<l.length):jf (l.drop i)=(je l[i]&&jf (l.drop (i+1))):=by rw[List.drop_eq_getElem_cons hi,jf]
theorem Fp{l:List ah}{i:Nat}(hi:i<l.length):nR (l.drop i)=max (lu l[i]) (nR (l.drop (i+1))):=by rw[List.drop_eq_getElem_cons hi,nR]
theorem Hy{l:List ah}{i:Nat}(hi:i<l.length):mO (l.drop i)=j6 l[i]+mO (l.drop (i+1)):=by rw[List.drop_eq_getElem_cons hi,mO]
theorem IE{x:ah}(h:x.sz<=67108864):j6 x<=67108865:=by have:=Qw x;omega
theorem ah.Kr{x:ah}{i:Nat}(hi:i<x.aj.length):SizeOf.sizeOf x.aj[i]<SizeOf.sizeOf x:=by
 have:=List.sizeOf_lt_of_mem (List.getElem_mem hi);have:=ah.pW x;omega
theorem Kt(l:List UInt8)(b:UInt8):aJ prog 235 [.c (.d (.s l)),.c (.d (.i .u8 b.toNat))] (.c (.d (.i .i64 (firstIdx ⟨l.toArray⟩ b)))):=fun S=>by
 refine zcx [.tmp 4] func235 ntmps235 ?_;simp -implicitDefEqProofs (disch:=omega) only[go_sem];refine aA (Fg l b) ?_;simp -implicitDefEqProofs (disch:=omega) only[go_sem]<;>(repeat(with_reducible refine And.intro ?_ ?_;focus first|omega|rfl|assumption|exact⟨_,rfl,rfl⟩|(simp;omega)|(simp;done)))
theorem NS(b:UInt8):aJ prog 223 [.c (.d (.i .u8 b.toNat))] (.c (.d (.b (jF b)))):=fun S=>by
 refine zcx [.tmp 2] func223 ntmps223 ?_;simp -implicitDefEqProofs (disch:=omega) only[go_sem];refine aA (J2 b) ?_;simp -implicitDefEqProofs (disch:=omega) only[go_sem]<;>(repeat(with_reducible refine And.intro ?_ ?_;focus first|omega|rfl|assumption|exact⟨_,rfl,rfl⟩|(simp;omega)|(simp;done)))
 with_reducible refine aD (fun hb=> ?_) (fun hb=> ?_)<;>have h:=hb<;>(try simp only[wf_preprocess] at h)<;>simp -implicitDefEqProofs (disch:=omega) only[go_sem,hb]<;>(repeat(with_reducible refine And.intro ?_ ?_;focus first|omega|rfl|assumption|exact⟨_,rfl,rfl⟩|(simp;omega)|(simp;done)))
 ·exact aY ((sM b).2 (.inl h)).symm
 have h1:=h;refine aA (J3 b) ?_;simp -implicitDefEqProofs (disch:=omega) only[go_sem]<;>(repeat(with_reducible refine And.intro ?_ ?_;focus first|omega|rfl|assumption|exact⟨_,rfl,rfl⟩|(simp;omega)|(simp;done)))
 with_reducible refine aD (fun hb=> ?_) (fun hb=> ?_)<;>have h:=hb<;>(try simp only[wf_preprocess] at h)<;>simp -implicitDefEqProofs (disch:=omega) only[go_sem,hb]<;>(repeat(with_reducible refine And.intro ?_ ?_;focus first|omega|rfl|assumption|exact⟨_,rfl,rfl⟩|(simp;omega)|(simp;done)))
 ·exact aY ((sM b).2 (.inr (.inl h))).symm
 have h2:=h;refine aA (Kt [39,45,43,42,60,61,46] b) ?_;simp -implicitDefEqProofs (disch:=omega) only[go_sem]<;>(repeat(with_reducible refine And.intro ?_ ?_;focus first|omega|rfl|assumption|exact⟨_,rfl,rfl⟩|(simp;omega)|(simp;done)));refine aY ?_;rw[Zq];unfold jF;unfold lowerB at h1;unfold oL at h2;simp[h1,h2]
theorem WA(s:List UInt8)(hs:s.length<=1073741824):aJ prog 195 [.c (.d (.s s))] (.c (.d (.b (validAtom s)))):=fun S=>by
 refine zcx [.tmp 2] func195 ntmps195 ?_;simp -implicitDefEqProofs (disch:=omega) only[go_sem]
 refine bF (ι:=Nat) zmx rfl [0,5,6] (fun i=>[.c (.d (.s s)),.c (.d (.i .i64 s.length)),.c (.d (.i .i64 i))]) (fun _=>[]::S)
  (fun i=>i<=s.length/\∀j,∀hj:j<s.length,j<i->jF s[j]=true) (fun i=>s.length-i) 0 rfl rfl ⟨Nat.zero_le _,fun j _ h=>by omega⟩ ?_
 rintro i ⟨p1,p2⟩;simp -implicitDefEqProofs (disch:=omega) only[go_sem]
 with_reducible refine aD (fun hb=> ?_) (fun hb=> ?_)<;>have h:=hb<;>(try simp only[wf_preprocess] at h)<;>simp -implicitDefEqProofs (disch:=omega) only[go_sem,hb]<;>(repeat(with_reducible refine And.intro ?_ ?_;focus first|omega|rfl|assumption|exact⟨_,rfl,rfl⟩|(simp;omega)|(simp;done)))
 ·have hi:i<s.length:=by omega
  have e:s.getD i 0=s[i]:=by simp[List.getD,hi]
  (repeat(with_reducible refine And.intro ?_ ?_;focus first|omega|rfl|assumption|exact⟨_,rfl,rfl⟩|(simp;omega)|(simp;done)))
  rw[e];refine aA (NS s[i]) ?_;simp -implicitDefEqProofs (disch:=omega) only[go_sem]<;>(repeat(with_reducible refine And.intro ?_ ?_;focus first|omega|rfl|assumption|exact⟨_,rfl,rfl⟩|(simp;omega)|(simp;done)))
  with_reducible refine aD (fun hb=> ?_) (fun hb=> ?_)<;>have h:=hb<;>(try simp only[wf_preprocess] at h)<;>simp -implicitDefEqProofs (disch:=omega) only[go_sem,hb]<;>(repeat(with_reducible refine And.intro ?_ ?_;focus first|omega|rfl|assumption|exact⟨_,rfl,rfl⟩|(simp;omega)|(simp;done)))
  ·exact aY (by unfold validAtom;rw[all_false hi h];rfl)
  ·refine dG (i+1) (by omega) rfl rfl ⟨by omega,fun j hj hji=> ?_⟩;by_cases e':j=i
   ·subst e';exact h
   ·exact p2 j hj (by omega)
 ·have ha:=all_true (s:=s) (fun j hj=>p2 j hj (by omega))
  with_reducible refine aD (fun hb=> ?_) (fun hb=> ?_)<;>have h:=hb<;>(try simp only[wf_preprocess] at h)<;>simp -implicitDefEqProofs (disch:=omega) only[go_sem,hb]<;>(repeat(with_reducible refine And.intro ?_ ?_;focus first|omega|rfl|assumption|exact⟨_,rfl,rfl⟩|(simp;omega)|(simp;done)))
  ·refine aY ?_;unfold validAtom;rw[ha,Bool.true_and];exact decide_eq_decide.2 (by omega)
  ·refine aY ?_;unfold validAtom;rw[ha,Bool.true_and];exact(decide_eq_false (by omega)).symm
theorem Zr(b:UInt8):aJ prog 214 [.c (.d (.i .u8 b.toNat))] (.c (.d (.b (jF b)))):=fun S=>by
 have yes:((97<=b.toNat/\b.toNat<=122)\/(48<=b.toNat/\b.toNat<=57)\/b.toNat=39\/b.toNat=45\/b.toNat=43\/b.toNat=42\/b.toNat=60\/b.toNat=61\/b.toNat=46)->jF b=true:=(sM b).2
 have no:¬((97<=b.toNat/\b.toNat<=122)\/(48<=b.toNat/\b.toNat<=57)\/b.toNat=39\/b.toNat=45\/b.toNat=43\/b.toNat=42\/b.toNat=60\/b.toNat=61\/b.toNat=46)->jF b=false:=fun h=>by
  cases hb:jF b with
  |false=>rfl
  |true=>exact absurd ((sM b).1 hb) h
 refine zcx [.tmp 2] func214 ntmps214 ?_;simp -implicitDefEqProofs (disch:=omega) only[go_sem]
 repeat' (first|(with_reducible refine aD (fun hb=> ?_) (fun hb=> ?_)<;>have h:=hb<;>(try simp only[wf_preprocess] at h)<;>simp -implicitDefEqProofs (disch:=omega) only[go_sem,hb]<;>(repeat(with_reducible refine And.intro ?_ ?_;focus first|omega|rfl|assumption|exact⟨_,rfl,rfl⟩|(simp;omega)|(simp;done)))))
 all_goals first
  |exact aY (yes (by omega)).symm
  |exact aY (no (by omega)).symm
  |(refine aY ?_;cases hb:jF b<;>simp only[decide_eq_true_eq,decide_eq_false_iff_not]<;>(first|(have:=(sM b).1 hb;omega)|(intro q;have:=yes (by omega);rw[hb] at this;cases this)))
theorem WB(s:List UInt8)(hs:s.length<=1073741824):aJ prog 188 [.c (.d (.s s))] (.c (.d (.b (validAtom s)))):=fun S=>by
 refine zcx [.tmp 2] func188 ntmps188 ?_;simp -implicitDefEqProofs (disch:=omega) only[go_sem]
 refine bF (ι:=Nat) zmx rfl [0,3] (fun i=>[.c (.d (.s s)),.c (.d (.i .i64 i))]) (fun _=>[]::S)
  (fun i=>i<=s.length/\∀j,∀hj:j<s.length,j<i->jF s[j]=true) (fun i=>s.length-i) 0 rfl rfl ⟨Nat.zero_le _,fun j _ h=>by omega⟩ ?_
 rintro i ⟨p1,p2⟩;simp -implicitDefEqProofs (disch:=omega) only[go_sem]
 with_reducible refine aD (fun hb=> ?_) (fun hb=> ?_)<;>have h:=hb<;>(try simp only[wf_preprocess] at h)<;>simp -implicitDefEqProofs (disch:=omega) only[go_sem,hb]<;>(repeat(with_reducible refine And.intro ?_ ?_;focus first|omega|rfl|assumption|exact⟨_,rfl,rfl⟩|(simp;omega)|(simp;done)))
 ·have hi:i<s.length:=by omega
  have e:s.getD i 0=s[i]:=by simp[List.getD,hi]
  (repeat(with_reducible refine And.intro ?_ ?_;focus first|omega|rfl|assumption|exact⟨_,rfl,rfl⟩|(simp;omega)|(simp;done)))
  rw[e];refine aA (Zr s[i]) ?_;simp -implicitDefEqProofs (disch:=omega) only[go_sem]<;>(repeat(with_reducible refine And.intro ?_ ?_;focus first|omega|rfl|assumption|exact⟨_,rfl,rfl⟩|(simp;omega)|(simp;done)))
  with_reducible refine aD (fun hb=> ?_) (fun hb=> ?_)<;>have h:=hb<;>(try simp only[wf_preprocess] at h)<;>simp -implicitDefEqProofs (disch:=omega) only[go_sem,hb]<;>(repeat(with_reducible refine And.intro ?_ ?_;focus first|omega|rfl|assumption|exact⟨_,rfl,rfl⟩|(simp;omega)|(simp;done)))
  ·exact aY (by unfold validAtom;rw[all_false hi h];rfl)
  ·refine dG (i+1) (by omega) rfl rfl ⟨by omega,fun j hj hji=> ?_⟩;by_cases e':j=i
   ·subst e';exact h
   ·exact p2 j hj (by omega)
 ·have ha:=all_true (s:=s) (fun j hj=>p2 j hj (by omega));refine aA (Ck s.length 1 12) ?_;simp -implicitDefEqProofs (disch:=omega) only[go_sem]<;>(repeat(with_reducible refine And.intro ?_ ?_;focus first|omega|rfl|assumption|exact⟨_,rfl,rfl⟩|(simp;omega)|(simp;done)));refine aY ?_;unfold validAtom;rw[ha,Bool.true_and,<-kY];exact decide_eq_decide.2 (by omega)
theorem Fq:∀n:Nat,(∀x:ah,SizeOf.sizeOf x<n->x.sz<=67108864->aJ prog 163 [x.v] (.c (.d (.b (je x)))))/\
 (∀xs:List ah,SizeOf.sizeOf xs<n->xs.length<=67108864->(∀t∈xs,t.sz<=67108864)->aJ prog 196 [.c (.d (.sl (xs.map ah.enc))),.c (.fn 197 [])] (.c (.d (.b (!jf xs)))))
 |0=>⟨fun x h=>by omega,fun x h=>by omega⟩
 |n+1=>by
  obtain⟨ih,nJ⟩:=Fq n;refine⟨fun x hn hsz S=> ?_,fun xs hn hlen hsz S=> ?_⟩
  ·have jA:=ah.pW x;have hts:=Cr hsz
   have hall:∀t∈x.aj,t.sz<=67108864:=fun t ht=>by
    obtain⟨i,hi,e⟩:=List.getElem_of_mem ht;rw[<-e];exact(zA hi hsz).1
   have tail:=nJ x.aj (by omega) hts.1 hall;have hf:=Aj x;refine zcx [.tmp 2] func163 ntmps163 ?_;simp -implicitDefEqProofs (disch:=omega) only[go_sem]
   with_reducible refine aD (fun hb=> ?_) (fun hb=> ?_)<;>have h:=hb<;>(try simp only[wf_preprocess] at h)<;>simp -implicitDefEqProofs (disch:=omega) only[go_sem,hb]<;>(repeat(with_reducible refine And.intro ?_ ?_;focus first|omega|rfl|assumption|exact⟨_,rfl,rfl⟩|(simp;omega)|(simp;done)))
   ·rw[if_neg h] at hf;refine aA (WA x.aU (by omega)) ?_;simp -implicitDefEqProofs (disch:=omega) only[go_sem]<;>(repeat(with_reducible refine And.intro ?_ ?_;focus first|omega|rfl|assumption|exact⟨_,rfl,rfl⟩|(simp;omega)|(simp;done)))
    with_reducible refine aD (fun hb=> ?_) (fun hb=> ?_)<;>have h:=hb<;>(try simp only[wf_preprocess] at h)<;>simp -implicitDefEqProofs (disch:=omega) only[go_sem,hb]<;>(repeat(with_reducible refine And.intro ?_ ?_;focus first|omega|rfl|assumption|exact⟨_,rfl,rfl⟩|(simp;omega)|(simp;done)))
    ·rw[hf,h,Bool.true_and];exact aY (decide_eq_decide.2 (by omega))
    ·rw[hf,h,Bool.false_and]
   ·rw[if_pos h] at hf;refine aA tail ?_;simp -implicitDefEqProofs (disch:=omega) only[go_sem];rw[hf,Bool.not_not]
  ·have hcl:∀y∈xs,aJ prog 197 [y.v] (.c (.d (.b (!je y)))):=fun y hy S=>by
    have hys:=List.sizeOf_lt_of_mem hy;refine zcx [.tmp 2] func197 ntmps197 ?_;simp -implicitDefEqProofs (disch:=omega) only[go_sem];refine aA (ih y (by omega) (hsz y hy)) ?_;simp -implicitDefEqProofs (disch:=omega) only[go_sem]<;>(repeat(with_reducible refine And.intro ?_ ?_;focus first|omega|rfl|assumption|exact⟨_,rfl,rfl⟩|(simp;omega)|(simp;done)))
   have hidx:aJ prog 224 [.c (.d (.sl (xs.map ah.enc))),.c (.fn 197 [])] (.c (.d (.i .i64 (qQ (fun y=> !je y) xs)))):=fun S=>by
    refine zcx [.tmp 4] func224 ntmps224 ?_;simp -implicitDefEqProofs (disch:=omega) only[go_sem]
    refine bF (ι:=Nat) zmx rfl [0,1,7,8] (fun i=>[.c (.d (.sl (xs.map ah.enc))),.c (.fn 197 []),.c (.d (.i .i64 xs.length)),.c (.d (.i .i64 i))]) (fun _=>[]::S)
     (fun i=>i<=xs.length/\∀j,∀hj:j<xs.length,j<i->je xs[j]=true) (fun i=>xs.length-i) 0 rfl rfl ⟨Nat.zero_le _,fun j _ h=>by omega⟩ ?_
    rintro i ⟨p1,p2⟩;simp -implicitDefEqProofs (disch:=omega) only[go_sem]
    with_reducible refine aD (fun hb=> ?_) (fun hb=> ?_)<;>have h:=hb<;>(try simp only[wf_preprocess] at h)<;>simp -implicitDefEqProofs (disch:=omega) only[go_sem,hb]<;>(repeat(with_reducible refine And.intro ?_ ?_;focus first|omega|rfl|assumption|exact⟨_,rfl,rfl⟩|(simp;omega)|(simp;done)))
    ·have hi:i<xs.length:=by omega
     (repeat(with_reducible refine And.intro ?_ ?_;focus first|omega|rfl|assumption|exact⟨_,rfl,rfl⟩|(simp;omega)|(simp;done)))
     refine aA (hcl xs[i] (List.getElem_mem hi)) ?_;simp -implicitDefEqProofs (disch:=omega) only[go_sem]<;>(repeat(with_reducible refine And.intro ?_ ?_;focus first|omega|rfl|assumption|exact⟨_,rfl,rfl⟩|(simp;omega)|(simp;done)))
     with_reducible refine aD (fun hb=> ?_) (fun hb=> ?_)<;>have h:=hb<;>(try simp only[wf_preprocess] at h)<;>simp -implicitDefEqProofs (disch:=omega) only[go_sem,hb]<;>(repeat(with_reducible refine And.intro ?_ ?_;focus first|omega|rfl|assumption|exact⟨_,rfl,rfl⟩|(simp;omega)|(simp;done)))
     ·rw[rD hi (fun j hj hji=>by rw[p2 j hj hji];rfl) (by rw[h];rfl)]
     ·refine dG (i+1) (by omega) rfl rfl ⟨by omega,fun j hj hji=> ?_⟩;by_cases e:j=i
      ·subst e;exact h
      ·exact p2 j hj (by omega)
    ·rw[uZ (fun j hj=>by rw[p2 j hj (by omega)];rfl)]
   refine zcx [.tmp 4] func196 ntmps196 ?_;simp -implicitDefEqProofs (disch:=omega) only[go_sem];refine aA (hidx) ?_;simp -implicitDefEqProofs (disch:=omega) only[go_sem]<;>(repeat(with_reducible refine And.intro ?_ ?_;focus first|omega|rfl|assumption|exact⟨_,rfl,rfl⟩|(simp;omega)|(simp;done)));rw[<-Kj];exact aY tq
theorem SV(x:ah)(hsz:x.sz<=67108864):aJ prog 163 [x.v] (.c (.d (.b (je x)))):=(Fq _).1 x (Nat.lt_succ_self _) hsz
theorem Ct:∀n:Nat,∀x:ah,SizeOf.sizeOf x<n->x.sz<=67108864->aJ prog 164 [x.v] (.c (.d (.i .i64 (lu x))))
 |0=>fun x h=>by omega
 |n+1=>by
  have ih:=Ct n;intro x hn hsz S;have hts:=Cr hsz;have hd:=MP x;have hd1:=BH x;have hd2:=IE hsz;refine zcx [.tmp 2] func164 ntmps164 ?_;simp -implicitDefEqProofs (disch:=omega) only[go_sem]
  with_reducible refine aD (fun hb=> ?_) (fun hb=> ?_)<;>have h:=hb<;>(try simp only[wf_preprocess] at h)<;>simp -implicitDefEqProofs (disch:=omega) only[go_sem,hb]<;>(repeat(with_reducible refine And.intro ?_ ?_;focus first|omega|rfl|assumption|exact⟨_,rfl,rfl⟩|(simp;omega)|(simp;done)))
  ·rw[if_neg h] at hd;rw[hd];rfl
  rw[if_pos h] at hd
  refine bF (ι:=Nat×Nat) zmx rfl [3,10,11,12] (fun y=>[.c (.d (.i .i64 y.2)),.c (.d (.sl (x.aj.map ah.enc))),.c (.d (.i .i64 x.aj.length)),.c (.d (.i .i64 y.1))]) (fun y=>[.box [.d (.s x.aU),.d (.sl (x.aj.map ah.enc))]]::S)
   (fun y=>y.1<=x.aj.length/\lu x=max y.2 (nR (x.aj.drop y.1))+1) (fun y=>x.aj.length-y.1) (0,0) rfl rfl ⟨Nat.zero_le _,by simp[hd]⟩ ?_
  rintro⟨i,c⟩ ⟨p1,p2⟩;simp only at p1 p2;simp -implicitDefEqProofs (disch:=omega) only[go_sem]
  with_reducible refine aD (fun hb=> ?_) (fun hb=> ?_)<;>have h:=hb<;>(try simp only[wf_preprocess] at h)<;>simp -implicitDefEqProofs (disch:=omega) only[go_sem,hb]<;>(repeat(with_reducible refine And.intro ?_ ?_;focus first|omega|rfl|assumption|exact⟨_,rfl,rfl⟩|(simp;omega)|(simp;done)))
  ·have hi:i<x.aj.length:=by omega
   have hsz':=zA hi hsz;rw[Fp hi] at p2
   (repeat(with_reducible refine And.intro ?_ ?_;focus first|omega|rfl|assumption|exact⟨_,rfl,rfl⟩|(simp;omega)|(simp;done)))
   refine aA (ih x.aj[i] (by have:=ah.Kr hi;omega) (by omega)) ?_;simp -implicitDefEqProofs (disch:=omega) only[go_sem]<;>(repeat(with_reducible refine And.intro ?_ ?_;focus first|omega|rfl|assumption|exact⟨_,rfl,rfl⟩|(simp;omega)|(simp;done)));rw[show max (c:Int) ((lu x.aj[i]:Int))=((max c (lu x.aj[i]):Nat):Int) by omega];exact dO 1 (by decide) (i+1,max c (lu x.aj[i])) (by simp only;omega) rfl rfl rfl rfl ⟨by simp only;omega,by simp only;omega⟩
  ·have hi:i=x.aj.length:=by omega
   rw[hi,List.drop_length,nR] at p2
   (repeat(with_reducible refine And.intro ?_ ?_;focus first|omega|rfl|assumption|exact⟨_,rfl,rfl⟩|(simp;omega)|(simp;done)))
   exact int_eq (by omega)
theorem NT(x:ah)(hsz:x.sz<=67108864):aJ prog 164 [x.v] (.c (.d (.i .i64 (lu x)))):=Ct _ x (Nat.lt_succ_self _) hsz
theorem Ee:∀n:Nat,∀x:ah,SizeOf.sizeOf x<n->x.sz<=67108864->aJ prog 165 [x.v] (.c (.d (.i .i64 (j6 x))))
 |0=>fun x h=>by omega
 |n+1=>by
  have ih:=Ee n;intro x hn hsz S;have hts:=Cr hsz;have hd2:=IE hsz;refine zcx [.tmp 2] func165 ntmps165 ?_;simp -implicitDefEqProofs (disch:=omega) only[go_sem]
  refine bF (ι:=Nat×Nat) zmx rfl [3,7,8,9] (fun y=>[.c (.d (.i .i64 y.2)),.c (.d (.sl (x.aj.map ah.enc))),.c (.d (.i .i64 x.aj.length)),.c (.d (.i .i64 y.1))]) (fun y=>[.box [.d (.s x.aU),.d (.sl (x.aj.map ah.enc))]]::S)
   (fun y=>y.1<=x.aj.length/\j6 x=y.2+mO (x.aj.drop y.1)) (fun y=>x.aj.length-y.1) (0,1) rfl rfl ⟨Nat.zero_le _,by simp[Qv];omega⟩ ?_
  rintro⟨i,c⟩ ⟨p1,p2⟩;simp only at p1 p2;simp -implicitDefEqProofs (disch:=omega) only[go_sem]
  with_reducible refine aD (fun hb=> ?_) (fun hb=> ?_)<;>have h:=hb<;>(try simp only[wf_preprocess] at h)<;>simp -implicitDefEqProofs (disch:=omega) only[go_sem,hb]<;>(repeat(with_reducible refine And.intro ?_ ?_;focus first|omega|rfl|assumption|exact⟨_,rfl,rfl⟩|(simp;omega)|(simp;done)))
  ·have hi:i<x.aj.length:=by omega
   have hsz':=zA hi hsz;rw[Hy hi] at p2
   (repeat(with_reducible refine And.intro ?_ ?_;focus first|omega|rfl|assumption|exact⟨_,rfl,rfl⟩|(simp;omega)|(simp;done)))
   refine aA (ih x.aj[i] (by have:=ah.Kr hi;omega) (by omega)) ?_;simp -implicitDefEqProofs (disch:=omega) only[go_sem]<;>(repeat(with_reducible refine And.intro ?_ ?_;focus first|omega|rfl|assumption|exact⟨_,rfl,rfl⟩|(simp;omega)|(simp;done)));rw[show(c:Int)+(j6 x.aj[i]:Int)=((c+j6 x.aj[i]:Nat):Int) by omega];exact dO 1 (by decide) (i+1,c+j6 x.aj[i]) (by simp only;omega) rfl rfl rfl rfl ⟨by simp only;omega,by simp only;omega⟩
  ·have hi:i=x.aj.length:=by omega
   rw[hi,List.drop_length,mO] at p2;exact int_eq (by omega)
theorem QC(x:ah)(hsz:x.sz<=67108864):aJ prog 165 [x.v] (.c (.d (.i .i64 (j6 x)))):=Ee _ x (Nat.lt_succ_self _) hsz
theorem yP(x:ah)(hsz:x.sz<=67108864):aJ prog 95 [x.v] (.c (.d (.b (iE x)))):=fun S=>by
 refine zcx [.tmp 2] func95 ntmps95 ?_;simp -implicitDefEqProofs (disch:=omega) only[go_sem];refine aA (SV x hsz) ?_;simp -implicitDefEqProofs (disch:=omega) only[go_sem]<;>(repeat(with_reducible refine And.intro ?_ ?_;focus first|omega|rfl|assumption|exact⟨_,rfl,rfl⟩|(simp;omega)|(simp;done)))
 with_reducible refine aD (fun hb=> ?_) (fun hb=> ?_)<;>have h:=hb<;>(try simp only[wf_preprocess] at h)<;>simp -implicitDefEqProofs (disch:=omega) only[go_sem,hb]<;>(repeat(with_reducible refine And.intro ?_ ?_;focus first|omega|rfl|assumption|exact⟨_,rfl,rfl⟩|(simp;omega)|(simp;done)))
 ·have hf:=h;refine aA (NT x hsz) ?_;simp -implicitDefEqProofs (disch:=omega) only[go_sem]<;>(repeat(with_reducible refine And.intro ?_ ?_;focus first|omega|rfl|assumption|exact⟨_,rfl,rfl⟩|(simp;omega)|(simp;done)))
  with_reducible refine aD (fun hb=> ?_) (fun hb=> ?_)<;>have h:=hb<;>(try simp only[wf_preprocess] at h)<;>simp -implicitDefEqProofs (disch:=omega) only[go_sem,hb]<;>(repeat(with_reducible refine And.intro ?_ ?_;focus first|omega|rfl|assumption|exact⟨_,rfl,rfl⟩|(simp;omega)|(simp;done)))
  ·refine aA (QC x hsz) ?_;simp -implicitDefEqProofs (disch:=omega) only[go_sem]<;>(repeat(with_reducible refine And.intro ?_ ?_;focus first|omega|rfl|assumption|exact⟨_,rfl,rfl⟩|(simp;omega)|(simp;done)));refine aY ?_;unfold iE;rw[hf,Bool.true_and];exact decide_eq_decide.2 (by omega)
  ·refine aY ?_;unfold iE;rw[hf,Bool.true_and];exact(decide_eq_false (by omega)).symm
 ·refine aY ?_;unfold iE;rw[h,Bool.false_and]
theorem Ku:∀n:Nat,∀x:ah,SizeOf.sizeOf x<n->∀l:Int,0<=l->l<=1073741824->x.sz<=67108864->aJ prog 146 [x.v,.c (.d (.i .i64 l))] (.c (.d (.i .i64 (l7 l (j6 x)))))
 |0=>fun x h=>by omega
 |n+1=>by
  have ih:=Ku n;intro x hn l h0 h1 hsz S;have hts:=Cr hsz;have hcn:=Qv x;refine zcx [.tmp 4] func146 ntmps146 ?_;simp -implicitDefEqProofs (disch:=omega) only[go_sem]
  refine bF (ι:=Nat×Int) zmx rfl [1,2,5] (fun y=>[.c (.d (.i .i64 y.2)),.c (.ptr (0,0) 0),.c (.d (.i .i64 y.1))]) (fun y=>[.box [.d (.s x.aU),.d (.sl (x.aj.map ah.enc))]]::S)
   (fun y=>y.1<=x.aj.length/\ -1<=y.2/\y.2<=1073741824/\(0<=y.2->l7 l (j6 x)=l7 y.2 (mO (x.aj.drop y.1)))/\(y.2<0->l7 l (j6 x)= -1)) (fun y=>x.aj.length-y.1) (0,l-1) rfl rfl ⟨Nat.zero_le _,by simp only;omega,by simp only;omega,fun h=> ?_,fun h=> ?_⟩ ?_
  ·simp only[List.drop_zero] at h ⊢;unfold l7;rw[hcn];split<;>split<;>omega
  ·simp only at h;exact Gj (by omega)
  rintro⟨i,c⟩ ⟨p1,p2,p3,p4,p5⟩;simp only at p1 p2 p3 p4 p5;simp -implicitDefEqProofs (disch:=omega) only[go_sem]
  with_reducible refine aD (fun hb=> ?_) (fun hb=> ?_)<;>have h:=hb<;>(try simp only[wf_preprocess] at h)<;>simp -implicitDefEqProofs (disch:=omega) only[go_sem,hb]<;>(repeat(with_reducible refine And.intro ?_ ?_;focus first|omega|rfl|assumption|exact⟨_,rfl,rfl⟩|(simp;omega)|(simp;done)))
  ·have hi:i<x.aj.length:=by omega
   with_reducible refine aD (fun hb=> ?_) (fun hb=> ?_)<;>have h:=hb<;>(try simp only[wf_preprocess] at h)<;>simp -implicitDefEqProofs (disch:=omega) only[go_sem,hb]<;>(repeat(with_reducible refine And.intro ?_ ?_;focus first|omega|rfl|assumption|exact⟨_,rfl,rfl⟩|(simp;omega)|(simp;done)))
   ·have hsz':=zA hi hsz;have p6:=p4 h;rw[Hy hi] at p6
    (repeat(with_reducible refine And.intro ?_ ?_;focus first|omega|rfl|assumption|exact⟨_,rfl,rfl⟩|(simp;omega)|(simp;done)))
    refine aA (ih x.aj[i] (by have:=ah.Kr hi;omega) c (by omega) (by omega) (by omega)) ?_;simp -implicitDefEqProofs (disch:=omega) only[go_sem]<;>(repeat(with_reducible refine And.intro ?_ ?_;focus first|omega|rfl|assumption|exact⟨_,rfl,rfl⟩|(simp;omega)|(simp;done)));refine dG (i+1,l7 c _) (by simp only;omega) rfl rfl ⟨by simp only;omega,?_,?_,fun h=> ?_,fun h=> ?_⟩
    ·simp only;unfold l7;split<;>omega
    ·simp only;unfold l7;split<;>omega
    ·simp only at h ⊢;rw[p6];have:=Gi (l:=c) (a:=j6 x.aj[i]) (by omega);rw[this.1];unfold l7;split<;>split<;>omega
    ·simp only at h ⊢;rw[p6];have:=Dl h;exact Gj (by omega)
   ·have hc:c= -1:=by omega
    rw[p5 (by omega),hc]
  ·have hi:i=x.aj.length:=by omega
   by_cases hc:0<=c
   ·rw[p4 hc,hi,List.drop_length,mO,P5 (by omega)];exact int_eq (by simp)
   ·rw[p5 (by omega)];exact int_eq (by omega)
theorem Zt(x:ah)(l:Int)(h0:0<=l)(h1:l<=1073741824)(hsz:x.sz<=67108864):aJ prog 146 [x.v,.c (.d (.i .i64 l))] (.c (.d (.i .i64 (l7 l (j6 x))))):=Ku _ x (Nat.lt_succ_self _) l h0 h1 hsz
theorem Kv:∀n:Nat,∀x:ah,SizeOf.sizeOf x<n->x.sz<=67108864->aJ prog 147 [x.v] (.c (.d (.b (je x))))
 |0=>fun x h=>by omega
 |n+1=>by
  have ih:=Kv n;intro x hn hsz S;have hts:=Cr hsz;have hf:=Aj x;refine zcx [.tmp 2] func147 ntmps147 ?_;simp -implicitDefEqProofs (disch:=omega) only[go_sem]
  with_reducible refine aD (fun hb=> ?_) (fun hb=> ?_)<;>have h:=hb<;>(try simp only[wf_preprocess] at h)<;>simp -implicitDefEqProofs (disch:=omega) only[go_sem,hb]<;>(repeat(with_reducible refine And.intro ?_ ?_;focus first|omega|rfl|assumption|exact⟨_,rfl,rfl⟩|(simp;omega)|(simp;done)))
  ·rw[if_neg h] at hf;refine aA (WB x.aU (by omega)) ?_;simp -implicitDefEqProofs (disch:=omega) only[go_sem]<;>(repeat(with_reducible refine And.intro ?_ ?_;focus first|omega|rfl|assumption|exact⟨_,rfl,rfl⟩|(simp;omega)|(simp;done)))
   with_reducible refine aD (fun hb=> ?_) (fun hb=> ?_)<;>have h:=hb<;>(try simp only[wf_preprocess] at h)<;>simp -implicitDefEqProofs (disch:=omega) only[go_sem,hb]<;>(repeat(with_reducible refine And.intro ?_ ?_;focus first|omega|rfl|assumption|exact⟨_,rfl,rfl⟩|(simp;omega)|(simp;done)))
   ·rw[hf,h,Bool.true_and];exact aY (decide_eq_decide.2 (by omega))
   ·rw[hf,h,Bool.false_and]
  rw[if_pos h] at hf
  refine bF (ι:=Nat) zmx rfl [1,3] (fun y=>[.c (.ptr (0,0) 0),.c (.d (.i .i64 y))]) (fun y=>[.box [.d (.s x.aU),.d (.sl (x.aj.map ah.enc))]]::S)
   (fun y=>y<=x.aj.length/\je x=jf (x.aj.drop y)) (fun y=>x.aj.length-y) 0 rfl rfl ⟨Nat.zero_le _,hf⟩ ?_
  rintro i ⟨p1,p2⟩;simp -implicitDefEqProofs (disch:=omega) only[go_sem]
  with_reducible refine aD (fun hb=> ?_) (fun hb=> ?_)<;>have h:=hb<;>(try simp only[wf_preprocess] at h)<;>simp -implicitDefEqProofs (disch:=omega) only[go_sem,hb]<;>(repeat(with_reducible refine And.intro ?_ ?_;focus first|omega|rfl|assumption|exact⟨_,rfl,rfl⟩|(simp;omega)|(simp;done)))
  ·have hi:i<x.aj.length:=by omega
   have hsz':=zA hi hsz;rw[SS hi] at p2
   (repeat(with_reducible refine And.intro ?_ ?_;focus first|omega|rfl|assumption|exact⟨_,rfl,rfl⟩|(simp;omega)|(simp;done)))
   refine aA (ih x.aj[i] (by have:=ah.Kr hi;omega) (by omega)) ?_;simp -implicitDefEqProofs (disch:=omega) only[go_sem]<;>(repeat(with_reducible refine And.intro ?_ ?_;focus first|omega|rfl|assumption|exact⟨_,rfl,rfl⟩|(simp;omega)|(simp;done)))
   with_reducible refine aD (fun hb=> ?_) (fun hb=> ?_)<;>have h:=hb<;>(try simp only[wf_preprocess] at h)<;>simp -implicitDefEqProofs (disch:=omega) only[go_sem,hb]<;>(repeat(with_reducible refine And.intro ?_ ?_;focus first|omega|rfl|assumption|exact⟨_,rfl,rfl⟩|(simp;omega)|(simp;done)))
   ·rw[p2,h,Bool.false_and]
   ·exact dG (i+1) (by omega) rfl rfl ⟨by omega,by rw[p2,h,Bool.true_and]⟩
  ·have hi:i=x.aj.length:=by omega
   rw[hi,List.drop_length,jf] at p2;rw[p2]
theorem Zu(x:ah)(hsz:x.sz<=67108864):aJ prog 147 [x.v] (.c (.d (.b (je x)))):=Kv _ x (Nat.lt_succ_self _) hsz
theorem Cv:∀n:Nat,∀x:ah,SizeOf.sizeOf x<n->x.sz<=67108864->aJ prog 148 [x.v] (.c (.d (.i .i64 (lu x))))
 |0=>fun x h=>by omega
 |n+1=>by
  have ih:=Cv n;intro x hn hsz S;have hts:=Cr hsz;have hd:=MP x;have hd1:=BH x;have hd2:=IE hsz;refine zcx [.tmp 2] func148 ntmps148 ?_;simp -implicitDefEqProofs (disch:=omega) only[go_sem]
  with_reducible refine aD (fun hb=> ?_) (fun hb=> ?_)<;>have h:=hb<;>(try simp only[wf_preprocess] at h)<;>simp -implicitDefEqProofs (disch:=omega) only[go_sem,hb]<;>(repeat(with_reducible refine And.intro ?_ ?_;focus first|omega|rfl|assumption|exact⟨_,rfl,rfl⟩|(simp;omega)|(simp;done)))
  ·rw[if_neg h] at hd;rw[hd];rfl
  rw[if_pos h] at hd
  refine bF (ι:=Nat×Nat) zmx rfl [1,3,4] (fun y=>[.c (.ptr (0,0) 0),.c (.d (.i .i64 y.2)),.c (.d (.i .i64 y.1))]) (fun y=>[.box [.d (.s x.aU),.d (.sl (x.aj.map ah.enc))]]::S)
   (fun y=>y.1<=x.aj.length/\lu x=max y.2 (nR (x.aj.drop y.1))+1) (fun y=>x.aj.length-y.1) (0,0) rfl rfl ⟨Nat.zero_le _,by simp[hd]⟩ ?_
  rintro⟨i,c⟩ ⟨p1,p2⟩;simp only at p1 p2;simp -implicitDefEqProofs (disch:=omega) only[go_sem]
  with_reducible refine aD (fun hb=> ?_) (fun hb=> ?_)<;>have h:=hb<;>(try simp only[wf_preprocess] at h)<;>simp -implicitDefEqProofs (disch:=omega) only[go_sem,hb]<;>(repeat(with_reducible refine And.intro ?_ ?_;focus first|omega|rfl|assumption|exact⟨_,rfl,rfl⟩|(simp;omega)|(simp;done)))
  ·have hi:i<x.aj.length:=by omega
   have hsz':=zA hi hsz;rw[Fp hi] at p2
   (repeat(with_reducible refine And.intro ?_ ?_;focus first|omega|rfl|assumption|exact⟨_,rfl,rfl⟩|(simp;omega)|(simp;done)))
   refine aA (ih x.aj[i] (by have:=ah.Kr hi;omega) (by omega)) ?_;simp -implicitDefEqProofs (disch:=omega) only[go_sem]<;>(repeat(with_reducible refine And.intro ?_ ?_;focus first|omega|rfl|assumption|exact⟨_,rfl,rfl⟩|(simp;omega)|(simp;done)));refine aA (Qm _ _) ?_;simp -implicitDefEqProofs (disch:=omega) only[go_sem]<;>(repeat(with_reducible refine And.intro ?_ ?_;focus first|omega|rfl|assumption|exact⟨_,rfl,rfl⟩|(simp;omega)|(simp;done)));rw[show max (c:Int) ((lu x.aj[i]:Int))=((max c (lu x.aj[i]):Nat):Int) by omega];exact dG (i+1,max c (lu x.aj[i])) (by simp only;omega) rfl rfl ⟨by simp only;omega,by simp only;omega⟩
  ·have hi:i=x.aj.length:=by omega
   rw[hi,List.drop_length,nR] at p2
   (repeat(with_reducible refine And.intro ?_ ?_;focus first|omega|rfl|assumption|exact⟨_,rfl,rfl⟩|(simp;omega)|(simp;done)))
   exact int_eq (by omega)
theorem NU(x:ah)(hsz:x.sz<=67108864):aJ prog 148 [x.v] (.c (.d (.i .i64 (lu x)))):=Cv _ x (Nat.lt_succ_self _) hsz
theorem yQ(x:ah)(hsz:x.sz<=67108864):aJ prog 68 [x.v] (.c (.d (.b (iE x)))):=fun S=>by
 refine zcx [.tmp 2] func68 ntmps68 ?_;simp -implicitDefEqProofs (disch:=omega) only[go_sem];refine aA (Zt x 900 (by omega) (by omega) hsz) ?_;simp -implicitDefEqProofs (disch:=omega) only[go_sem]<;>(repeat(with_reducible refine And.intro ?_ ?_;focus first|omega|rfl|assumption|exact⟨_,rfl,rfl⟩|(simp;omega)|(simp;done)))
 with_reducible refine aD (fun hb=> ?_) (fun hb=> ?_)<;>have h:=hb<;>(try simp only[wf_preprocess] at h)<;>simp -implicitDefEqProofs (disch:=omega) only[go_sem,hb]<;>(repeat(with_reducible refine And.intro ?_ ?_;focus first|omega|rfl|assumption|exact⟨_,rfl,rfl⟩|(simp;omega)|(simp;done)))
 ·have h1:=(Gi (l:=900) (a:=j6 x) (by omega)).2;refine aA (Zu x hsz) ?_;simp -implicitDefEqProofs (disch:=omega) only[go_sem]<;>(repeat(with_reducible refine And.intro ?_ ?_;focus first|omega|rfl|assumption|exact⟨_,rfl,rfl⟩|(simp;omega)|(simp;done)))
  with_reducible refine aD (fun hb=> ?_) (fun hb=> ?_)<;>have h:=hb<;>(try simp only[wf_preprocess] at h)<;>simp -implicitDefEqProofs (disch:=omega) only[go_sem,hb]<;>(repeat(with_reducible refine And.intro ?_ ?_;focus first|omega|rfl|assumption|exact⟨_,rfl,rfl⟩|(simp;omega)|(simp;done)))
  ·have hf:=h;refine aA (NU x hsz) ?_;simp -implicitDefEqProofs (disch:=omega) only[go_sem]<;>(repeat(with_reducible refine And.intro ?_ ?_;focus first|omega|rfl|assumption|exact⟨_,rfl,rfl⟩|(simp;omega)|(simp;done)));refine aY ?_;unfold iE;rw[hf,Bool.true_and];exact decide_eq_decide.2 (by omega)
  ·refine aY ?_;unfold iE;rw[h,Bool.false_and]
 ·have h1:=Dl (l:=900) (a:=j6 x) (by omega);refine aY ?_;unfold iE;rw[decide_eq_false (by omega),Bool.and_false]
def lx(l:List ah)(n:Nat):List (List D):=eP (l.map ah.enc) n
def eu(x:ah):Nat:=qL x.enc
def iJ(l:List ah):Nat:=nG (l.map ah.enc)
theorem l9(x:ah)(n:Nat):dW x.enc n=[.s x.aU,.ol n (lx x.aj (n+1))]:=by
 rw[ah.aB];simp only[dW,lC,pz,Nat.add_zero,lx]
theorem yA(s:List UInt8)(n:Nat):dW (bH s).enc n=[.s s,.ol n []]:=by rw[l9];rfl
theorem ae1(x:ah):eu x=iJ x.aj+1:=by
 unfold eu iJ;rw[ah.aB];simp only[qL,pz];omega
theorem vB(s:List UInt8):eu (bH s)=1:=by rw[ae1];rfl
theorem uj(n:Nat):lx [] n=[]:=rfl
theorem qb(x:ah)(l:List ah)(n:Nat):lx (x::l) n=dW x.enc n::lx l (n+eu x):=rfl
theorem kM(a b:List ah)(n:Nat):lx (a++b) n=lx a n++lx b (n+iJ a):=by unfold lx iJ;rw[List.map_append,p8]
theorem Zv:iJ []=0:=rfl
theorem WC(x:ah)(l:List ah):iJ (x::l)=eu x+iJ l:=rfl
theorem iy(l:List ah)(n:Nat):(lx l n).length=l.length:=by unfold lx;rw[jU,List.length_map]
theorem mW{l:List ah}{n:Nat}:∀r∈lx l n,r.length=2:=zl fun r hr=>by
 obtain⟨z,_,rfl⟩:=List.mem_map.1 hr;exact z.bN
theorem Gu{l:List ah}{i:Nat}(hi:i<l.length)(n:Nat):lx (l.take i) n++[dW l[i].enc (n+iJ (l.take i))]=lx (l.take (i+1)) n:=by
 rw[List.take_succ_eq_append_getElem hi,kM];rfl
theorem IG{l:List ah}{i:Nat}(hi:i<l.length)(n:Nat):lx (l.take i) n++[[.s l[i].aU,.ol (n+iJ (l.take i)) (lx l[i].aj (n+iJ (l.take i)+1))]]=lx (l.take (i+1)) n:=by
 rw[<-Gu hi,l9]
theorem QD{base l:List ah}{i:Nat}(hi:i<l.length)(q:Nat):lx (base++l.take i) q++[[.s l[i].aU,.ol (q+iJ (base++l.take i)) (lx l[i].aj (q+iJ (base++l.take i)+1))]]=lx (base++l.take (i+1)) q:=by
 rw[List.take_succ_eq_append_getElem hi,<-List.append_assoc,kM (base++l.take i),qb,uj,l9]
theorem gW{l:List ah}:∀r∈l.map ah.enc,r.length=2:=fun r hr=>by
 obtain⟨z,_,rfl⟩:=List.mem_map.1 hr;exact z.bN
theorem BJ{cs cs':List C}(hl:cs'.length=cs.length)(h:∀(j:Nat)(x y:C),cs[j]? =some x->cs'[j]? =some y->∀w σ S β v,fT w σ S β x v->fT w σ S β y v):Less (.agg cs) (.agg cs'):=by
 rintro w σ S β v ⟨a,ha,hc⟩;refine⟨a,ha,hl.trans hc.1,fun j y hy=> ?_⟩
 have hj:j<cs.length:=by rw[<-hl];exact(List.getElem?_eq_some_iff.1 hy).1
 obtain⟨v,h1,h2,h3⟩:=hc.2 j _ (List.getElem?_eq_getElem hj);exact⟨v,h1,h j _ y (List.getElem?_eq_getElem hj) hy w σ S β v h2,h3⟩
theorem agG{w:World}{σ:Nat->Nat}{S:Store}{β:Hs}{v:Value}(n:Nat)(h:fT w σ S β (.bE []) v):fT w σ S β (.d (.ol n [])) v:=by
 obtain⟨hd,ad,m,hval⟩:=h
 have hm:m=0:=by rw[hval] at hd;cases hd<;>rfl
 subst hm;rw[hval];exact .oU _ _ _
theorem LV(s:List UInt8)(n:Nat):Less (.agg [.d (.s s),.bE []]) (.agg [.d (.s s),.d (.ol n [])]):=BJ rfl fun j x y hx hy w σ S β v hv=>by
 match j,hx,hy with
 |0,hx,hy=>cases hx;cases hy;exact hv
 |1,hx,hy=>cases hx;cases hy;exact agG _ hv
 |j+2,hx,hy=>simp at hx
theorem ae2(s:List UInt8)(n:Nat)(es:List (List D)):Less (.agg [.d (.s s),.jw n es]) (.agg [.d (.s s),.d (.ol n es)]):=BJ rfl fun j x y hx hy w σ S β v hv=>by
 match j,hx,hy with
 |0,hx,hy=>cases hx;cases hy;exact hv
 |1,hx,hy=>cases hx;cases hy;exact hv.1
 |j+2,hx,hy=>simp at hx
theorem SX(s:List UInt8):aJ prog 97 [.c (.d (.s s))] (.agg [.d (.s s),.bE []]):=fun S=>by
 refine zcx [.cell 2 39] func97 ntmps97 ?_;simp -implicitDefEqProofs (disch:=omega) only[go_sem]
theorem dS(s:List UInt8)(n:Nat):aJ prog 97 [.c (.d (.s s))] (.agg [.d (.s s),.d (.ol n [])]):=aJ.less (SX s) (LV s n)
theorem wz(d:D):aJ prog 96 [.c (.d d)] (.agg [.d (.s []),.d d]):=fun S=>by
 refine zcx [.cell 2 39] func96 ntmps96 ?_;simp -implicitDefEqProofs (disch:=omega) only[go_sem]
theorem SY(n:Nat)(es:List (List D)):aJ prog 96 [.c (.jw n es)] (.agg [.d (.s []),.jw n es]):=fun S=>by
 refine zcx [.cell 2 39] func96 ntmps96 ?_;simp -implicitDefEqProofs (disch:=omega) only[go_sem]
theorem tK(n:Nat)(es:List (List D)):aJ prog 96 [.c (.jw n es)] (.agg [.d (.s []),.d (.ol n es)]):=aJ.less (SY n es) (ae2 [] n es)
theorem lD(l j:Nat)(es:List (List D))(S:Store):bJ prog 96 [.c (.bK (l,j) es)] S (fun r S'=>r=.agg [.d (.s []),.bK (l,j) es]/\S'=S):=by
 refine zcx [.cell 2 39] func96 ntmps96 ?_;simp -implicitDefEqProofs (disch:=omega) only[go_sem]
theorem yR(xs:List (List UInt8))(hx:xs.length<=1073741824)(n q:Nat):aJ prog 166 [.c (.d (.sl (xs.map encS)))] (.c (.d (.ol n (lx (aR xs) q)))):=fun S=>by
 refine lN (n) (rs:=[.tmp 2]) zmx func166 ntmps166 rfl rfl rfl rfl rfl ?_;simp -implicitDefEqProofs (disch:=omega) only[go_sem]
 (repeat(with_reducible refine And.intro ?_ ?_;focus first|omega|rfl|assumption|exact⟨_,rfl,rfl⟩|(simp;omega)|(simp;done)))
 refine nQ n 3 2 [] (.inl rfl) (by simp) ?_
 refine bF (ι:=Nat) zmx rfl [3,7,8,9] (fun i=>[.c (.bK (0,1) (lx ((aR xs).take i) q)),.c (.d (.sl (xs.map encS))),.c (.d (.i .i64 xs.length)),.c (.d (.i .i64 i))]) (fun i=>[.seed n,.dY n 2 (lx ((aR xs).take i) q)]::S)
  (fun i=>i<=xs.length) (fun i=>xs.length-i) 0 rfl rfl (Nat.zero_le _) ?_
 intro i hi;simp -implicitDefEqProofs (disch:=omega) only[go_sem]
 with_reducible refine aD (fun hb=> ?_) (fun hb=> ?_)<;>have h:=hb<;>(try simp only[wf_preprocess] at h)<;>simp -implicitDefEqProofs (disch:=omega) only[go_sem,hb]<;>(repeat(with_reducible refine And.intro ?_ ?_;focus first|omega|rfl|assumption|exact⟨_,rfl,rfl⟩|(simp;omega)|(simp;done)))
 ·have hi':i<xs.length:=by omega
  have hw:i<(aR xs).length:=by rw[kL];exact hi'
  have hg:(aR xs)[i]=bH xs[i]:=by simp[aR]
  have hl:(lx ((aR xs).take i) q).length<=i:=by rw[iy];exact List.length_take_le _ _
  (repeat(with_reducible refine And.intro ?_ ?_;focus first|omega|rfl|assumption|exact⟨_,rfl,rfl⟩|(simp;omega)|(simp;done)))
  refine aA (dS xs[i] (q+iJ ((aR xs).take i))) ?_;simp -implicitDefEqProofs (disch:=omega) only[go_sem]
  (repeat(with_reducible refine And.intro ?_ ?_;focus first|omega|rfl|assumption|exact⟨_,rfl,rfl⟩|(simp;omega)|(simp;done)))
  have hs:=Gu hw q;rw[hg,yA] at hs;rw[hs];exact dG (i+1) (by omega) rfl rfl (by omega)
 ·have hi':i=(aR xs).length:=by rw[kL];omega
  rw[hi',List.take_length]
theorem iK(xs:List (List UInt8))(hx:xs.length<=1073741824)(n:Nat):aJ prog 99 [.c (.d (.sl (xs.map encS)))] (.agg [.d (.s []),.d (.ol n (lx (aR xs) (n+1)))]):=fun S=>by
 refine zcx [.cell 2 39] func99 ntmps99 ?_;simp -implicitDefEqProofs (disch:=omega) only[go_sem];refine aA (yR xs hx n (n+1)) ?_;simp -implicitDefEqProofs (disch:=omega) only[go_sem];refine aA (wz _) ?_;simp -implicitDefEqProofs (disch:=omega) only[go_sem]
theorem Kw:∀N:Nat,(∀x:au,SizeOf.sizeOf x<N->∀n:Nat,formed x=true->x.sz<=4194304->aJ prog 98 [x.v] (.agg [.d (.s (dK x).aU),.d (.ol n (lx (dK x).aj (n+1)))]))/\
 (∀xs:List au,SizeOf.sizeOf xs<N->∀n q:Nat,ji xs=true->xs.length<=4194304->(∀t∈xs,t.sz<=4194304)->aJ prog 150 [.c (.d (.sl (xs.map au.enc)))] (.c (.d (.ol n (lx (xs.map dK) q)))))
 |0=>⟨fun x h=>by omega,fun x h=>by omega⟩
 |N+1=>by
  obtain⟨ih,nJ⟩:=Kw N;refine⟨fun x hn n hf hsz=> ?_,fun xs hn n q hf hlen hsz=> ?_⟩
  ·have jA:=au.iI x;have hts:=A8 hsz;have hx:=Zk x;rw[u6,Bool.and_eq_true] at hf;have hfi:=gF hf.1
   have hall:∀t∈x.fArgs,t.sz<=4194304:=fun t ht=>by
    obtain⟨i,hi,e⟩:=List.getElem_of_mem ht;rw[<-e];exact(sH hi hsz).1
   intro S;refine Kl (n) 1 (rs:=[.cell 2 39]) zmx func98 ntmps98 rfl rfl rfl rfl rfl ?_;simp -implicitDefEqProofs (disch:=omega) only[go_sem]
   with_reducible refine aD (fun hb=> ?_) (fun hb=> ?_)<;>have h:=hb<;>(try simp only[wf_preprocess] at h)<;>simp -implicitDefEqProofs (disch:=omega) only[go_sem,hb]<;>(repeat(with_reducible refine And.intro ?_ ?_;focus first|omega|rfl|assumption|exact⟨_,rfl,rfl⟩|(simp;omega)|(simp;done)))
   ·rw[if_pos h] at hx;rw[hx]
    (repeat(with_reducible refine And.intro ?_ ?_;focus first|omega|rfl|assumption|exact⟨_,rfl,rfl⟩|(simp;omega)|(simp;done)))
    refine aA (dS _ n) ?_;simp -implicitDefEqProofs (disch:=omega) only[go_sem];rfl
   have k1:=h;rw[if_neg h] at hx
   with_reducible refine aD (fun hb=> ?_) (fun hb=> ?_)<;>have h:=hb<;>(try simp only[wf_preprocess] at h)<;>simp -implicitDefEqProofs (disch:=omega) only[go_sem,hb]<;>(repeat(with_reducible refine And.intro ?_ ?_;focus first|omega|rfl|assumption|exact⟨_,rfl,rfl⟩|(simp;omega)|(simp;done)))
   ·rw[if_pos h] at hx;rw[hx];refine aA (dS _ (n+1)) ?_;simp -implicitDefEqProofs (disch:=omega) only[go_sem];refine aA (dS _ (n+1+1)) ?_;simp -implicitDefEqProofs (disch:=omega) only[go_sem];refine aA (tK _ _) ?_;simp -implicitDefEqProofs (disch:=omega) only[go_sem];rfl
   have k4:=h;rw[if_neg h] at hx
   with_reducible refine aD (fun hb=> ?_) (fun hb=> ?_)<;>have h:=hb<;>(try simp only[wf_preprocess] at h)<;>simp -implicitDefEqProofs (disch:=omega) only[go_sem,hb]<;>(repeat(with_reducible refine And.intro ?_ ?_;focus first|omega|rfl|assumption|exact⟨_,rfl,rfl⟩|(simp;omega)|(simp;done)))
   ·have hlen:x.fArgs.length=1:=by omega
    obtain⟨a,ha⟩:=List.length_eq_one_iff.1 hlen
    have ha0:x.fArgs[0]'(by omega)=a:=by simp[ha]
    rw[if_neg (by omega),if_pos h,ha] at hx;have hfa:formed a=true:=BF.1 hf.2 a (by rw[ha];simp);have hsa:a.sz<=4194304:=hall a (by rw[ha];simp)
    have hla:SizeOf.sizeOf a<N:=by
     have:=List.sizeOf_lt_of_mem (show a∈x.fArgs by rw[ha];simp);omega
    rw[hx];refine aA (dS _ (n+1)) ?_;simp -implicitDefEqProofs (disch:=omega) only[go_sem];refine aA (dS _ (n+1+1)) ?_;simp -implicitDefEqProofs (disch:=omega) only[go_sem,ha,List.getD_cons_zero]
    (repeat(with_reducible refine And.intro ?_ ?_;focus first|omega|rfl|assumption|exact⟨_,rfl,rfl⟩|(simp;omega)|(simp;done)))
    refine aA (ih a hla (n+1+1+1) hfa hsa) ?_;simp -implicitDefEqProofs (disch:=omega) only[go_sem];refine aA (tK _ _) ?_;simp -implicitDefEqProofs (disch:=omega) only[go_sem];simp only[d9,dP,List.cons_append,List.nil_append,List.map_cons,List.map_nil,qb,uj,yA,vB,l9,tF,tH,nA]
   have k3:=h
   with_reducible refine aD (fun hb=> ?_) (fun hb=> ?_)<;>have h:=hb<;>(try simp only[wf_preprocess] at h)<;>simp -implicitDefEqProofs (disch:=omega) only[go_sem,hb]<;>(repeat(with_reducible refine And.intro ?_ ?_;focus first|omega|rfl|assumption|exact⟨_,rfl,rfl⟩|(simp;omega)|(simp;done)))
   ·rw[if_pos ⟨by omega,by omega⟩] at hx;rw[hx];refine aA (dS _ n) ?_;simp -implicitDefEqProofs (disch:=omega) only[go_sem];rfl
   rw[if_neg (by omega),if_neg k3] at hx;rw[hx];refine aA (dS _ (n+1)) ?_;simp -implicitDefEqProofs (disch:=omega) only[go_sem];refine aA (nJ x.fArgs (by omega) 0 (n+1+1) hf.2 hts.1 hall) ?_;simp -implicitDefEqProofs (disch:=omega) only[go_sem]
   have hl:(lx (x.fArgs.map dK) (n+1+1)).length=x.fArgs.length:=by rw[iy,List.length_map]
   have hr:=mW (l:=x.fArgs.map dK) (n:=n+1+1)
   (repeat(with_reducible refine And.intro ?_ ?_;focus first|omega|rfl|assumption|exact⟨_,rfl,rfl⟩|(simp;omega)|(simp;done)))
   refine aA (wz _) ?_;simp -implicitDefEqProofs (disch:=omega) only[go_sem];simp only[d9,dP,List.cons_append,List.nil_append,qb,uj,yA,vB]
  ·have zm:=fun(i:Nat) (hi:i<xs.length)=>IG (l:=xs.map dK) (i:=i) (by rw[List.length_map];exact hi) q;intro S;refine lN (n) (rs:=[.tmp 2]) zmx func150 ntmps150 rfl rfl rfl rfl rfl ?_;simp -implicitDefEqProofs (disch:=omega) only[go_sem]
   (repeat(with_reducible refine And.intro ?_ ?_;focus first|omega|rfl|assumption|exact⟨_,rfl,rfl⟩|(simp;omega)|(simp;done)))
   refine nQ n 3 2 [] (.inl rfl) (by simp) ?_
   refine bF (ι:=Nat) zmx rfl [3,7,8,9] (fun i=>[.c (.bK (0,1) (lx ((xs.map dK).take i) q)),.c (.d (.sl (xs.map au.enc))),.c (.d (.i .i64 xs.length)),.c (.d (.i .i64 i))]) (fun i=>[.seed n,.dY n 2 (lx ((xs.map dK).take i) q)]::S)
    (fun i=>i<=xs.length) (fun i=>xs.length-i) 0 rfl rfl (Nat.zero_le _) ?_
   intro i hi;simp -implicitDefEqProofs (disch:=omega) only[go_sem]
   with_reducible refine aD (fun hb=> ?_) (fun hb=> ?_)<;>have h:=hb<;>(try simp only[wf_preprocess] at h)<;>simp -implicitDefEqProofs (disch:=omega) only[go_sem,hb]<;>(repeat(with_reducible refine And.intro ?_ ?_;focus first|omega|rfl|assumption|exact⟨_,rfl,rfl⟩|(simp;omega)|(simp;done)))
   ·have hi':i<xs.length:=by omega
    have hs:=zm i hi';rw[List.getElem_map] at hs
    have hl:(lx ((xs.map dK).take i) q).length<=i:=by rw[iy];exact List.length_take_le _ _
    (repeat(with_reducible refine And.intro ?_ ?_;focus first|omega|rfl|assumption|exact⟨_,rfl,rfl⟩|(simp;omega)|(simp;done)))
    refine aA (ih xs[i] (by have:=List.sizeOf_lt_of_mem (List.getElem_mem hi');omega) (q+iJ ((xs.map dK).take i)) (BF.1 hf _ (List.getElem_mem hi')) (hsz _ (List.getElem_mem hi'))) ?_;simp -implicitDefEqProofs (disch:=omega) only[go_sem]
    (repeat(with_reducible refine And.intro ?_ ?_;focus first|omega|rfl|assumption|exact⟨_,rfl,rfl⟩|(simp;omega)|(simp;done)))
    rw[hs];exact dO 2 (by decide) (i+1) (by omega) rfl rfl rfl rfl (by omega)
   ·have hi':i=(xs.map dK).length:=by rw[List.length_map];omega
    rw[hi',List.take_length]
theorem oN(x:au)(n:Nat)(hf:formed x=true)(hsz:x.sz<=4194304):aJ prog 98 [x.v] (.agg [.d (.s (dK x).aU),.d (.ol n (lx (dK x).aj (n+1)))]):=(Kw _).1 x (Nat.lt_succ_self _) n hf hsz
theorem gq(s:List UInt8):(bH s).enc=[.s s,.sl []]:=by rw[ah.aB];rfl
theorem sN(l:List ah):(bS l).enc=[.s [],.sl (l.map ah.enc)]:=by rw[ah.aB];rfl
theorem lQ{base l:List ah}{i:Nat}(hi:i<l.length):(base++l.take i).map ah.enc++[[.s l[i].aU,.sl (l[i].aj.map ah.enc)]]=(base++l.take (i+1)).map ah.enc:=by
 rw[List.take_succ_eq_append_getElem hi,<-List.append_assoc,List.map_append (l₂:=[l[i]]),List.map_cons,List.map_nil,ah.aB]
theorem LW(s:List UInt8)(es:List (List D)):Less (.agg [.d (.s s),.bE es]) (.agg [.d (.s s),.d (.sl es)]):=BJ rfl fun j x y hx hy w σ S β v hv=>by
 match j,hx,hy with
 |0,hx,hy=>cases hx;cases hy;exact hv
 |1,hx,hy=>cases hx;cases hy;exact hv.1
 |j+2,hx,hy=>simp at hx
theorem LX(x:ah)(n:Nat):Less (.agg [.d (.s x.aU),.d (.ol n (lx x.aj (n+1)))]) x.v:=by
 have h:=Ak (r:=x.enc) (n:=n);rw[l9,ah.pV] at h;exact h
theorem QE(s:List UInt8):aJ prog 37 [.c (.d (.s s))] (.agg [.d (.s s),.bE []]):=fun S=>by
 refine zcx [.cell 2 39] func37 ntmps37 ?_;simp -implicitDefEqProofs (disch:=omega) only[go_sem]
theorem bO(s:List UInt8):aJ prog 37 [.c (.d (.s s))] (.agg [.d (.s s),.d (.sl [])]):=aJ.less (QE s) (LW s [])
theorem nN(es:List (List D))(hes:∀e∈es,e.length=2)(hl:es.length<=1073741824):aJ prog 36 [.c (.d (.sl es))] (.agg [.d (.s []),.d (.sl es)]):=fun S=>by
 refine zcx [.cell 2 39] func36 ntmps36 ?_;simp -implicitDefEqProofs (disch:=omega) only[go_sem];exact⟨hes,⟨_,rfl,rfl⟩,(fun y hy=>by cases hy),hl⟩
theorem wB(es:List (List D))(hes:∀e∈es,e.length=2)(hl:es.length<=1073741824)(bD:List Ab.Obj)(Ω:Store):bJ prog 36 [.c (.d (.sl es))] (bD::Ω)
 (fun r S'=>r=.agg [.d (.s []),.bK (0,bD.length+1) es]/\S'=(bD++[.box [.d (.s []),.bK (0,bD.length+1) es],.tok 2 es])::Ω):=by
 refine EO (rs:=[.cell 2 39]) zmx func36 ntmps36 rfl rfl rfl rfl rfl ?_;simp -implicitDefEqProofs (disch:=omega) only[go_sem];exact⟨hes,⟨_,rfl,rfl⟩,(fun y hy=>by cases hy),hl⟩
theorem Fu(xs:List (List UInt8))(hx:xs.length<=1073741824):aJ prog 102 [.c (.d (.sl (xs.map encS)))] (.c (.d (.sl ((aR xs).map ah.enc)))):=fun S=>by
 refine zcx [.tmp 2] func102 ntmps102 ?_;simp -implicitDefEqProofs (disch:=omega) only[go_sem]
 (repeat(with_reducible refine And.intro ?_ ?_;focus first|omega|rfl|assumption|exact⟨_,rfl,rfl⟩|(simp;omega)|(simp;done)))
 refine yg 3 2 [] rfl (by simp) ?_
 refine bF (ι:=Nat) zmx rfl [0,3,4] (fun i=>[.c (.d (.sl (xs.map encS))),.c (.bK (0,0) (((aR xs).take i).map ah.enc)),.c (.d (.i .i64 i))]) (fun i=>[.tok 2 (((aR xs).take i).map ah.enc)]::S)
  (fun i=>i<=xs.length) (fun i=>xs.length-i) 0 rfl rfl (Nat.zero_le _) ?_
 intro i hi
 have hl:(((aR xs).take i).map ah.enc).length<=i:=by rw[List.length_map];exact List.length_take_le _ _
 simp -implicitDefEqProofs (disch:=omega) only[go_sem]
 with_reducible refine aD (fun hb=> ?_) (fun hb=> ?_)<;>have h:=hb<;>(try simp only[wf_preprocess] at h)<;>simp -implicitDefEqProofs (disch:=omega) only[go_sem,hb]<;>(repeat(with_reducible refine And.intro ?_ ?_;focus first|omega|rfl|assumption|exact⟨_,rfl,rfl⟩|(simp;omega)|(simp;done)))
 ·have hi':i<xs.length:=by omega
  have hs:=lQ (base:=[]) (l:=aR xs) (i:=i) (by rw[kL];exact hi')
  have hg:(aR xs)[i]'(by rw[kL];exact hi')=bH xs[i]:=by simp[aR]
  rw[hg] at hs;simp only[List.nil_append,tF,tH,List.map_nil] at hs
  (repeat(with_reducible refine And.intro ?_ ?_;focus first|omega|rfl|assumption|exact⟨_,rfl,rfl⟩|(simp;omega)|(simp;done)))
  refine aA (bO xs[i]) ?_;simp -implicitDefEqProofs (disch:=omega) only[go_sem]
  (repeat(with_reducible refine And.intro ?_ ?_;focus first|omega|rfl|assumption|exact⟨_,rfl,rfl⟩|(simp;omega)|(simp;done)))
  rw[hs];exact dG (i+1) (by omega) rfl rfl (by omega)
 ·have hi':i=(aR xs).length:=by rw[kL];omega
  rw[hi',List.take_length]
theorem gD(xs:List (List UInt8))(hx:xs.length<=1073741824):aJ prog 40 [.c (.d (.sl (xs.map encS)))] (.agg [.d (.s []),.d (.sl ((aR xs).map ah.enc))]):=fun S=>by
 refine zcx [.cell 2 39] func40 ntmps40 ?_;simp -implicitDefEqProofs (disch:=omega) only[go_sem];refine aA (Fu xs hx) ?_;simp -implicitDefEqProofs (disch:=omega) only[go_sem]
theorem Ky:∀N:Nat,(∀x:au,SizeOf.sizeOf x<N->x.sz<=4194304->aJ prog 38 [x.v] (.agg [.d (.s (dK x).aU),.d (.sl ((dK x).aj.map ah.enc))]))
 |0=>fun x h=>by omega
 |N+1=>by
  have ih:=Ky N;intro x hn hsz;have jA:=au.iI x;have hts:=A8 hsz;have hx:=Zk x
  have hall:∀t∈x.fArgs,t.sz<=4194304:=fun t ht=>by
   obtain⟨i,hi,e⟩:=List.getElem_of_mem ht;rw[<-e];exact(sH hi hsz).1
  intro S;refine zcx [.cell 2 39] func38 ntmps38 ?_;simp -implicitDefEqProofs (disch:=omega) only[go_sem]
  with_reducible refine aD (fun hb=> ?_) (fun hb=> ?_)<;>have h:=hb<;>(try simp only[wf_preprocess] at h)<;>simp -implicitDefEqProofs (disch:=omega) only[go_sem,hb]<;>(repeat(with_reducible refine And.intro ?_ ?_;focus first|omega|rfl|assumption|exact⟨_,rfl,rfl⟩|(simp;omega)|(simp;done)))
  ·rw[if_pos h] at hx;rw[hx]
   (repeat(with_reducible refine And.intro ?_ ?_;focus first|omega|rfl|assumption|exact⟨_,rfl,rfl⟩|(simp;omega)|(simp;done)))
   refine aA (bO _) ?_;simp -implicitDefEqProofs (disch:=omega) only[go_sem];rfl
  rw[if_neg h] at hx
  with_reducible refine aD (fun hb=> ?_) (fun hb=> ?_)<;>have h:=hb<;>(try simp only[wf_preprocess] at h)<;>simp -implicitDefEqProofs (disch:=omega) only[go_sem,hb]<;>(repeat(with_reducible refine And.intro ?_ ?_;focus first|omega|rfl|assumption|exact⟨_,rfl,rfl⟩|(simp;omega)|(simp;done)))
  ·rw[if_pos h] at hx;rw[hx];refine aA (bO _) ?_;simp -implicitDefEqProofs (disch:=omega) only[go_sem];refine aA (bO _) ?_;simp -implicitDefEqProofs (disch:=omega) only[go_sem];refine aA (nN _ (by simp) (by simp)) ?_;simp -implicitDefEqProofs (disch:=omega) only[go_sem];simp only[d9,dP,List.map_cons,List.map_nil,gq,Dy]
  rw[if_neg h] at hx
  have ajI:x.aI=2->x.fArgs.length=0->dK x=bH x.fName:=fun a b=>by rw[hx,if_pos ⟨a,b⟩]
  have acI:¬(x.aI=2/\x.fArgs.length=0)->dK x=bS ((if x.aI=3 then [bH nA] else [])++[bH x.fName]++x.fArgs.map dK):=fun a=>by rw[hx,if_neg a]
  clear hx
  repeat' (first|(with_reducible refine aD (fun hb=> ?_) (fun hb=> ?_)<;>have h:=hb<;>(try simp only[wf_preprocess] at h)<;>simp -implicitDefEqProofs (disch:=omega) only[go_sem,hb]<;>(repeat(with_reducible refine And.intro ?_ ?_;focus first|omega|rfl|assumption|exact⟨_,rfl,rfl⟩|(simp;omega)|(simp;done)))))
  ·rw[ajI (by omega) (by omega)];refine aA (bO _) ?_;simp -implicitDefEqProofs (disch:=omega) only[go_sem];rfl
  ·exfalso;omega
  ·have hx:=acI (by omega);rw[if_neg h,List.nil_append] at hx;refine aA (bO _) ?_;simp -implicitDefEqProofs (disch:=omega) only[go_sem]
   (repeat(with_reducible refine And.intro ?_ ?_;focus first|omega|rfl|assumption|exact⟨_,rfl,rfl⟩|(simp;omega)|(simp;done)))
   refine bF (ι:=Nat) zmx rfl [1,2,3,4] (fun i=>[.c (.ptr (0,0) 0),.c (.ptr (0,1) 0),.c (.ptr (0,2) 0),.c (.d (.i .i64 i))])
    (fun i=>[.box [.d (.i .i64 x.aI),.d (.s x.fName),.d (.sl (x.fArgs.map au.enc))],.box [.d (.s []),.bE []],.box [.d (.s []),.bK (0,3) (([bH x.fName]++(x.fArgs.map dK).take i).map ah.enc)],.tok 2 (([bH x.fName]++(x.fArgs.map dK).take i).map ah.enc)]::S)
    (fun i=>i<=x.fArgs.length) (fun i=>x.fArgs.length-i) 0 rfl ?_ (Nat.zero_le _) ?_
   ·simp only[List.take_zero,List.append_nil,List.map_cons,List.map_nil,List.cons_append,List.nil_append,gq]<;>(try rfl)
   intro i hi
   have hl:(([bH x.fName]++(x.fArgs.map dK).take i).map ah.enc).length<=i+2:=by
    rw[List.length_map,List.length_append];have:=List.length_take_le i (x.fArgs.map dK);simp only[List.length_cons,List.length_nil];omega
   have hs:=fun hi=>lQ (base:=[bH x.fName]) (l:=x.fArgs.map dK) (i:=i) hi;have hrw:=gW (l:=[bH x.fName]++(x.fArgs.map dK).take i);generalize hR:([bH x.fName]++(x.fArgs.map dK).take i).map ah.enc=R at hl hs hrw;simp -implicitDefEqProofs (disch:=omega) only[go_sem]
   with_reducible refine aD (fun hb=> ?_) (fun hb=> ?_)<;>have h:=hb<;>(try simp only[wf_preprocess] at h)<;>simp -implicitDefEqProofs (disch:=omega) only[go_sem,hb]<;>(repeat(with_reducible refine And.intro ?_ ?_;focus first|omega|rfl|assumption|exact⟨_,rfl,rfl⟩|(simp;omega)|(simp;done)))
   ·have hi':i<x.fArgs.length:=by omega
    have hs':=hs (by rw[List.length_map];exact hi');rw[List.getElem_map] at hs'
    (repeat(with_reducible refine And.intro ?_ ?_;focus first|omega|rfl|assumption|exact⟨_,rfl,rfl⟩|(simp;omega)|(simp;done)))
    refine aA (ih x.fArgs[i] (by have:=List.sizeOf_lt_of_mem (List.getElem_mem hi');omega) (hall _ (List.getElem_mem hi'))) ?_;simp -implicitDefEqProofs (disch:=omega) only[go_sem]
    (repeat(with_reducible refine And.intro ?_ ?_;focus first|omega|rfl|assumption|exact⟨_,rfl,rfl⟩|(simp;omega)|(simp;done)))
    rw[hs'];exact dG (i+1) (by omega) rfl rfl (by omega)
   ·have hi':i=(x.fArgs.map dK).length:=by rw[List.length_map];omega
    rw[hx,<-hR,hi',List.take_length];simp only[d9,dP,List.cons_append,List.nil_append]
  ·have hx:=acI (by omega);rw[if_pos h] at hx;refine aA (bO _) ?_;simp -implicitDefEqProofs (disch:=omega) only[go_sem]
   (repeat(with_reducible refine And.intro ?_ ?_;focus first|omega|rfl|assumption|exact⟨_,rfl,rfl⟩|(simp;omega)|(simp;done)))
   refine aA (bO _) ?_;simp -implicitDefEqProofs (disch:=omega) only[go_sem]
   (repeat(with_reducible refine And.intro ?_ ?_;focus first|omega|rfl|assumption|exact⟨_,rfl,rfl⟩|(simp;omega)|(simp;done)))
   refine bF (ι:=Nat) zmx rfl [1,2,3,4] (fun i=>[.c (.ptr (0,0) 0),.c (.ptr (0,1) 0),.c (.ptr (0,2) 0),.c (.d (.i .i64 i))])
    (fun i=>[.box [.d (.i .i64 x.aI),.d (.s x.fName),.d (.sl (x.fArgs.map au.enc))],.box [.d (.s []),.bE []],.box [.d (.s []),.bK (0,3) (([bH nA,bH x.fName]++(x.fArgs.map dK).take i).map ah.enc)],.tok 2 (([bH nA,bH x.fName]++(x.fArgs.map dK).take i).map ah.enc)]::S)
    (fun i=>i<=x.fArgs.length) (fun i=>x.fArgs.length-i) 0 rfl ?_ (Nat.zero_le _) ?_
   ·simp only[List.take_zero,List.append_nil,List.map_cons,List.map_nil,List.cons_append,List.nil_append,gq]<;>(try rfl)
   intro i hi
   have hl:(([bH nA,bH x.fName]++(x.fArgs.map dK).take i).map ah.enc).length<=i+2:=by
    rw[List.length_map,List.length_append];have:=List.length_take_le i (x.fArgs.map dK);simp only[List.length_cons,List.length_nil];omega
   have hs:=fun hi=>lQ (base:=[bH nA,bH x.fName]) (l:=x.fArgs.map dK) (i:=i) hi;have hrw:=gW (l:=[bH nA,bH x.fName]++(x.fArgs.map dK).take i);generalize hR:([bH nA,bH x.fName]++(x.fArgs.map dK).take i).map ah.enc=R at hl hs hrw;simp -implicitDefEqProofs (disch:=omega) only[go_sem]
   with_reducible refine aD (fun hb=> ?_) (fun hb=> ?_)<;>have h:=hb<;>(try simp only[wf_preprocess] at h)<;>simp -implicitDefEqProofs (disch:=omega) only[go_sem,hb]<;>(repeat(with_reducible refine And.intro ?_ ?_;focus first|omega|rfl|assumption|exact⟨_,rfl,rfl⟩|(simp;omega)|(simp;done)))
   ·have hi':i<x.fArgs.length:=by omega
    have hs':=hs (by rw[List.length_map];exact hi');rw[List.getElem_map] at hs'
    (repeat(with_reducible refine And.intro ?_ ?_;focus first|omega|rfl|assumption|exact⟨_,rfl,rfl⟩|(simp;omega)|(simp;done)))
    refine aA (ih x.fArgs[i] (by have:=List.sizeOf_lt_of_mem (List.getElem_mem hi');omega) (hall _ (List.getElem_mem hi'))) ?_;simp -implicitDefEqProofs (disch:=omega) only[go_sem]
    (repeat(with_reducible refine And.intro ?_ ?_;focus first|omega|rfl|assumption|exact⟨_,rfl,rfl⟩|(simp;omega)|(simp;done)))
    rw[hs'];exact dG (i+1) (by omega) rfl rfl (by omega)
   ·have hi':i=(x.fArgs.map dK).length:=by rw[List.length_map];omega
    rw[hx,<-hR,hi',List.take_length];simp only[d9,dP,List.cons_append,List.nil_append]
  ·have hx:=acI (by omega);rw[if_neg h,List.nil_append] at hx;refine aA (bO _) ?_;simp -implicitDefEqProofs (disch:=omega) only[go_sem]
   (repeat(with_reducible refine And.intro ?_ ?_;focus first|omega|rfl|assumption|exact⟨_,rfl,rfl⟩|(simp;omega)|(simp;done)))
   refine bF (ι:=Nat) zmx rfl [1,2,3,4] (fun i=>[.c (.ptr (0,0) 0),.c (.ptr (0,1) 0),.c (.ptr (0,2) 0),.c (.d (.i .i64 i))])
    (fun i=>[.box [.d (.i .i64 x.aI),.d (.s x.fName),.d (.sl (x.fArgs.map au.enc))],.box [.d (.s []),.bE []],.box [.d (.s []),.bK (0,3) (([bH x.fName]++(x.fArgs.map dK).take i).map ah.enc)],.tok 2 (([bH x.fName]++(x.fArgs.map dK).take i).map ah.enc)]::S)
    (fun i=>i<=x.fArgs.length) (fun i=>x.fArgs.length-i) 0 rfl ?_ (Nat.zero_le _) ?_
   ·simp only[List.take_zero,List.append_nil,List.map_cons,List.map_nil,List.cons_append,List.nil_append,gq]<;>(try rfl)
   intro i hi
   have hl:(([bH x.fName]++(x.fArgs.map dK).take i).map ah.enc).length<=i+2:=by
    rw[List.length_map,List.length_append];have:=List.length_take_le i (x.fArgs.map dK);simp only[List.length_cons,List.length_nil];omega
   have hs:=fun hi=>lQ (base:=[bH x.fName]) (l:=x.fArgs.map dK) (i:=i) hi;have hrw:=gW (l:=[bH x.fName]++(x.fArgs.map dK).take i);generalize hR:([bH x.fName]++(x.fArgs.map dK).take i).map ah.enc=R at hl hs hrw;simp -implicitDefEqProofs (disch:=omega) only[go_sem]
   with_reducible refine aD (fun hb=> ?_) (fun hb=> ?_)<;>have h:=hb<;>(try simp only[wf_preprocess] at h)<;>simp -implicitDefEqProofs (disch:=omega) only[go_sem,hb]<;>(repeat(with_reducible refine And.intro ?_ ?_;focus first|omega|rfl|assumption|exact⟨_,rfl,rfl⟩|(simp;omega)|(simp;done)))
   ·have hi':i<x.fArgs.length:=by omega
    have hs':=hs (by rw[List.length_map];exact hi');rw[List.getElem_map] at hs'
    (repeat(with_reducible refine And.intro ?_ ?_;focus first|omega|rfl|assumption|exact⟨_,rfl,rfl⟩|(simp;omega)|(simp;done)))
    refine aA (ih x.fArgs[i] (by have:=List.sizeOf_lt_of_mem (List.getElem_mem hi');omega) (hall _ (List.getElem_mem hi'))) ?_;simp -implicitDefEqProofs (disch:=omega) only[go_sem]
    (repeat(with_reducible refine And.intro ?_ ?_;focus first|omega|rfl|assumption|exact⟨_,rfl,rfl⟩|(simp;omega)|(simp;done)))
    rw[hs'];exact dG (i+1) (by omega) rfl rfl (by omega)
   ·have hi':i=(x.fArgs.map dK).length:=by rw[List.length_map];omega
    rw[hx,<-hR,hi',List.take_length];simp only[d9,dP,List.cons_append,List.nil_append]
theorem qx(x:au)(hsz:x.sz<=4194304):aJ prog 38 [x.v] (.agg [.d (.s (dK x).aU),.d (.sl ((dK x).aj.map ah.enc))]):=Ky _ x (Nat.lt_succ_self _) hsz
theorem Bd(b:Bool)(x:ah)(hsz:x.sz<=67108864):aJ prog 39 [.c (.d (.b b)),x.v] (wm b x).v:=by
 have zero:aJ prog 39 [.c (.d (.b b)),x.v] (.agg [.d (.s []),.bE []])->aJ prog 39 [.c (.d (.b b)),x.v] eH.v:=fun h=>aJ.less h (LW [] [])
 cases b with
 |false=>
  refine zero fun S=> ?_;refine zcx [.cell 4 39] func39 ntmps39 ?_;simp -implicitDefEqProofs (disch:=omega) only[go_sem]
 |true=>
  show aJ prog 39 [.c (.d (.b true)),x.v] (Bc x).v;unfold Bc
  cases hv:iE x with
  |false=>
   refine zero fun S=> ?_;refine zcx [.cell 4 39] func39 ntmps39 ?_;simp -implicitDefEqProofs (disch:=omega) only[go_sem];refine aA (yQ x hsz) ?_;simp -implicitDefEqProofs (disch:=omega) only[go_sem,hv]
  |true=>
   intro S;refine zcx [.cell 4 39] func39 ntmps39 ?_;simp -implicitDefEqProofs (disch:=omega) only[go_sem];refine aA (yQ x hsz) ?_;simp -implicitDefEqProofs (disch:=omega) only[go_sem,hv]
theorem WE(x:ah)(n:Nat)(hsz:x.sz<=67108864):aJ prog 34 [.agg [.d (.s x.aU),.d (.ol n (lx x.aj (n+1)))]] (.agg [.d (.s (Bc x).aU),.d (.ol n (lx (Bc x).aj (n+1)))]):=by
 unfold Bc
 cases hv:iE x with
 |false=>
  refine aJ.less (fun S=> ?_) (LV [] n);refine zcx [.cell 2 39] func34 ntmps34 ?_;simp -implicitDefEqProofs (disch:=omega) only[go_sem];refine wo (yP x hsz) (.cons (LX x n) .nil) ?_;simp -implicitDefEqProofs (disch:=omega) only[go_sem,hv]
 |true=>
  intro S;refine zcx [.cell 2 39] func34 ntmps34 ?_;simp -implicitDefEqProofs (disch:=omega) only[go_sem];refine wo (yP x hsz) (.cons (LX x n) .nil) ?_;simp -implicitDefEqProofs (disch:=omega) only[go_sem,hv]
def xM:List UInt8:=[116,114,117,101]
def wC:List UInt8:=[102,97,108,115,101]
def mF:List UInt8:=[99,97,108,108]
def gP:List UInt8:=[109,101,116,104,111,100]
def pE:List UInt8:=[110,101,119]
def jl:List UInt8:=[99,97,115,101]
def pF:List UInt8:=[108,101,116]
def um:List UInt8:=[105,102]
def mG:List UInt8:=[112,97,99,107]
def qd:List UInt8:=[116,104,101]
def gM(k:Int)(tr nm:List UInt8)(ty:au):List ah:=
 if k=4 then aR [mF,nm] else if k=5 then aR [gP,tr,nm] else if k=6 then aR [pE,nm] else if k=8 then aR [pF,nm] else
 if k=9 then aR [um] else if k=10 then aR [nm] else if k=11 then aR [mG,tr] else if k=12 then [bH qd,dK ty] else aR [jl]
mutual
def dX:aC->ah
 | .mk k tr nm n ty zs ms=>if k=1 then bH (Lib.itoa n) else if k=2 then bH (if n=1 then xM else wC) else if k=3 then bH nm else
   bS (gM k tr nm ty++yS zs++(if k=4\/k=5\/k=6\/k=8\/k=9\/k=10\/k=11\/k=12 then [] else DI ms))
def yS:List aC->List ah
 |[]=>[]
 |t::ts=>dX t::yS ts
def wK:aP->ah
 | .mk c vs b=>bS ([bH c]++aR vs++[dX b])
def DI:List aP->List ah
 |[]=>[]
 |t::ts=>wK t::DI ts
end
theorem Ao:∀l,yS l=l.map dX
 |[]=>rfl
 |t::ts=>by rw[yS,List.map_cons,Ao ts]
theorem DJ:∀l,DI l=l.map wK
 |[]=>rfl
 |t::ts=>by rw[DI,List.map_cons,DJ ts]
theorem Fv(x:aC):dX x=if x.aI=1 then bH (Lib.itoa x.fN) else if x.aI=2 then bH (if x.fN=1 then xM else wC) else if x.aI=3 then bH x.fName else
 bS (gM x.aI x.bg x.fName x.fType++x.fArgs.map dX++(if x.aI=4\/x.aI=5\/x.aI=6\/x.aI=8\/x.aI=9\/x.aI=10\/x.aI=11\/x.aI=12 then [] else x.aO.map wK)):=by
 cases x;rw[dX,Ao,DJ];rfl
theorem Zw(x:aP):wK x=bS ([bH x.bU]++aR x.aK++[dX x.fBody]):=by cases x;rw[wK];rfl
def qV:List aC->Nat
 |[]=>0
 |x::xs=>x.sz+qV xs
theorem II:∀l,bB (l.map aC.enc)=qV l
 |[]=>rfl
 |x::xs=>by rw[List.map_cons,bB,qV,II xs];rfl
def yY:List aP->Nat
 |[]=>0
 |x::xs=>x.sz+yY xs
theorem IJ:∀l,bB (l.map aP.enc)=yY l
 |[]=>rfl
 |x::xs=>by rw[List.map_cons,bB,yY,IJ xs];rfl
theorem uK(x:aC):x.sz=x.bg.length+x.fName.length+x.fType.sz+(x.fArgs.length+qV x.fArgs)+(x.aO.length+yY x.aO):=by
 rw[<-II,<-IJ];simp only[aC.sz,aC.aB,bL,bZ,D.sz,List.length_map,au.dz];omega
theorem yB(x:aP):x.sz=x.bU.length+(x.aK.length+(x.aK.map List.length).sum)+x.fBody.sz:=by
 rw[<-gL];simp only[aP.sz,aP.aB,bL,bZ,D.sz,List.length_map,aC.dz];omega
theorem Cw:∀(k n:Nat),n<10^ (k+1)->(Lib.decDigits n).length<=k+1
 |0,n,h=>by rw[Lib.decDigits,dif_pos (by simpa using h)];simp
 |k+1,n,h=>by
  rw[Lib.decDigits];split
  ·simp
  ·rw[List.length_append];have:=Cw k (n/10) (by rw[Nat.pow_succ] at h;omega);simp;omega
theorem acJ{n:Int}(h: -999999<=n/\n<=999999):(Lib.itoa n).length<=7:=by
 unfold Lib.itoa;split
 ·have:=Cw 5 n.natAbs (by omega);simp;omega
 ·have:=Cw 5 n.toNat (by omega);omega
theorem Zx(k:Int)(tr nm:List UInt8)(ty:au):(gM k tr nm ty).length<=3/\dJ (gM k tr nm ty)<=18+tr.length+nm.length+16*ty.sz:=by
 have h:=Fh ty;unfold gM
 repeat' (first|(split;·refine⟨by simp[aR],?_⟩;simp[dJ,aR,mV,mF,gP,pE,pF,um,mG,qd,jl];omega))
 refine⟨by simp[aR],?_⟩;simp[dJ,aR,mV,jl];omega
mutual
theorem QF:∀x:aC,gU x=true->(dX x).sz<=24+32*x.sz
 | .mk k tr nm n ty zs ms=>fun hok=>by
   rw[gU,Bool.and_eq_true,Bool.and_eq_true] at hok;have hf:=gF hok.1;have h1:=Uc zs hok.2.1;have h2:=Ud ms hok.2.2;have h3:=Zx k tr nm ty;rw[uK];simp only[aC.fName,aC.fArgs,aC.bg,aC.fType,aC.aO];rw[dX];split
   ·rename_i hk;have h4:=hf.2.2.2.1;simp only[aC.aI,aC.fN,hk,if_true] at h4;have:=acJ h4;rw[mV];omega
   ·split
    ·rw[mV];split<;>simp[xM,wC]<;>omega
    ·split
     ·rw[mV];omega
     ·rw[tJ,lq,lq,List.length_append,List.length_append,Ao,List.length_map,<-Ao];split
      ·simp[dJ];omega
      ·rw[DJ,List.length_map,<-DJ];omega
theorem Uc:∀xs:List aC,jO xs=true->dJ (yS xs)<=24*xs.length+32*qV xs
 |[],_=>by simp[yS,dJ]
 |x::xs,h=>by
  rw[jO,Bool.and_eq_true] at h;have h1:=QF x h.1;have h2:=Uc xs h.2;rw[yS,dJ,qV,List.length_cons];omega
theorem agH:∀x:aP,tC x=true->(wK x).sz<=26+32*x.sz
 | .mk c vs b=>fun hok=>by
   rw[tC,Bool.and_eq_true,Bool.and_eq_true] at hok;have h1:=QF b hok.2.2;rw[yB];simp only[aP.bU,aP.aK,aP.fBody];rw[wK,tJ,lq,lq,List.length_append,List.length_append,kL,Bb];simp[dJ,mV];omega
theorem Ud:∀xs:List aP,mK xs=true->dJ (DI xs)<=26*xs.length+32*yY xs
 |[],_=>by simp[DI,dJ]
 |x::xs,h=>by
  rw[mK,Bool.and_eq_true] at h;have h1:=agH x h.1;have h2:=Ud xs h.2;rw[DI,dJ,yY,List.length_cons];omega
end
end Go.Ab
namespace Go.Proofs
open Go.Shelf
def Tryz.laysM171_ren:Go.Shelf.Ren:=⟨fun|171=>198|243=>225|246=>236|283=>244|284=>245|285=>246|286=>247|129=>254|317=>253|318=>255|319=>256|320=>257|337=>261|338=>262|n=>n,fun|3=>3|9=>9|2=>2|4=>4|171=>213|0=>0|53=>214|37=>22|5=>5|173=>217|212=>228|51=>229|20=>20|213=>230|46=>173|232=>239|233=>240|n=>n,fun|17=>2|18=>4|19=>5|n=>n⟩
theorem Tryz.laysM171:Go.Proofs.LaysM.n171 prog Tryz.laysM171_ren:={
 mixed:=by kernel_rfl
 f129:=func254.trans (congrArg some (by kernel_rfl))
 f171:=func198.trans (congrArg some (by kernel_rfl))
 f243:=func225.trans (congrArg some (by kernel_rfl))
 f246:=func236.trans (congrArg some (by kernel_rfl))
 f283:=func244.trans (congrArg some (by kernel_rfl))
 f284:=func245.trans (congrArg some (by kernel_rfl))
 f285:=func246.trans (congrArg some (by kernel_rfl))
 f286:=func247.trans (congrArg some (by kernel_rfl))
 f317:=func253.trans (congrArg some (by kernel_rfl))
 f318:=func255.trans (congrArg some (by kernel_rfl))
 f319:=func256.trans (congrArg some (by kernel_rfl))
 f320:=func257.trans (congrArg some (by kernel_rfl))
 f337:=func261.trans (congrArg some (by kernel_rfl))
 f338:=func262.trans (congrArg some (by kernel_rfl))
 t0:=underlying0
 a0:=Tryz.isAgg0
 z0:=Tryz.sizeOf0
 v0:=Tryz.zeroValue0
 t2:=underlying2
 a2:=Tryz.isAgg2
 z2:=Tryz.sizeOf2
 v2:=Tryz.zeroValue2
 t3:=underlying3
 a3:=Tryz.isAgg3
 z3:=Tryz.sizeOf3
 v3:=Tryz.zeroValue3
 t4:=underlying4
 a4:=Tryz.isAgg4
 z4:=Tryz.sizeOf4
 v4:=Tryz.zeroValue4
 t5:=underlying5
 a5:=Tryz.isAgg5
 z5:=Tryz.sizeOf5
 v5:=Tryz.zeroValue5
 t9:=underlying9
 a9:=Tryz.isAgg9
 z9:=Tryz.sizeOf9
 v9:=Tryz.zeroValue9
 t20:=underlying20
 a20:=Tryz.isAgg20
 z20:=Tryz.sizeOf20
 v20:=Tryz.zeroValue20
 t37:=underlying22
 a37:=Tryz.isAgg22
 z37:=Tryz.sizeOf22
 v37:=Tryz.zeroValue22
 t46:=underlying173
 a46:=Tryz.isAgg173
 z46:=Tryz.sizeOf173
 v46:=Tryz.zeroValue173
 t51:=underlying229
 a51:=Tryz.isAgg229
 z51:=Tryz.sizeOf229
 v51:=Tryz.zeroValue229
 t53:=underlying214
 a53:=Tryz.isAgg214
 z53:=Tryz.sizeOf214
 v53:=Tryz.zeroValue214
 t171:=underlying213
 a171:=Tryz.isAgg213
 z171:=Tryz.sizeOf213
 v171:=Tryz.zeroValue213
 t173:=underlying217
 a173:=Tryz.isAgg217
 z173:=Tryz.sizeOf217
 v173:=Tryz.zeroValue217
 t212:=underlying228
 a212:=Tryz.isAgg228
 z212:=Tryz.sizeOf228
 v212:=Tryz.zeroValue228
 t213:=underlying230
 a213:=Tryz.isAgg230
 z213:=Tryz.sizeOf230
 t232:=underlying239
 a232:=Tryz.isAgg239
 z232:=Tryz.sizeOf239
 v232:=Tryz.zeroValue239
 t233:=underlying240
 a233:=Tryz.isAgg240
 z233:=Tryz.sizeOf240
 v233:=Tryz.zeroValue240
 g17:=by kernel_rfl
 g18:=by kernel_rfl
 g19:=by kernel_rfl
 i0:=by kernel_rfl
 i2:=by kernel_rfl
 i3:=by kernel_rfl
 i4:=by kernel_rfl
 i5:=by kernel_rfl
 i9:=by kernel_rfl
 i20:=by kernel_rfl
 i37:=by kernel_rfl
 i46:=by kernel_rfl
 i51:=by kernel_rfl
 i53:=by kernel_rfl
 i171:=by kernel_rfl
 i173:=by kernel_rfl
 i212:=by kernel_rfl
 i232:=by kernel_rfl
 i233:=by kernel_rfl
 m17:=by kernel_rfl
 m18:=by kernel_rfl
 m19:=by kernel_rfl}
open Go.RowKit Go.Sort Go.Lib in
theorem Tryz.strconv_Itoa(n:Int)(h0: -9223372036854775808<=n)(h1:n<=9223372036854775807)(w:World)(htab:Lib.TabIs prog w "internal/strconv.uint64pow10" .u64 Lib.pow10Tab):
 Calls prog 198 #[.int .i64 n] w fun e w'=>e=.returned (.string ⟨(Lib.itoa n).toArray⟩)/\∃k os,w'=grow (w.drewN k) os:=Any.strconv_Itoa Tryz.laysM171 n h0 h1 w htab
end Go.Proofs
namespace Go.Ab
theorem WG{w:World}{σ:Nat->Nat}{k:Nat}{os:Array Go.Obj}(hl:∀b,b<w.heap.size\/σ b=0):Grow w σ (Go.Sort.grow (w.drewN k) os) σ:=by
 have hh:(Go.Sort.grow (w.drewN k) os).heap=w.heap++os:=rfl;refine⟨by rw[hh];simp,rfl,rfl,fun b hb=>⟨by rw[hh,Array.getElem?_append_left hb],rfl⟩,fun b=> ?_⟩;rcases hl b with h|h
 ·left;rw[hh];simp;omega
 ·exact .inr h
theorem ae3{x:V}{vs:List Value}{w:World}{σ:Nat->Nat}{S:Store}{β:Hs}(h:nZ w σ S β [x] vs):∃v,vs=[v]/\cB w σ S β x v:=by
 obtain⟨hl,h⟩:=h;obtain⟨v,e,hr⟩:=h 0 x rfl
 match vs,hl,e with
 |[y],_,e=>simp at e;subst e;exact⟨_,rfl,hr⟩
theorem MX{w:World}{σ:Nat->Nat}(h:Br w σ):Lib.TabIs prog w "internal/strconv.uint64pow10" .u64 Lib.pow10Tab:=by
 obtain⟨c,t,fz,q1,q2,q3⟩:=h _ _ (show _∈Tx from List.mem_cons_self ..)
 have hn:prog.globalNamed "internal/strconv.uint64pow10" =some 2:=by kernel_rfl
 unfold Lib.TabIs World.var?;rw[hn];simp only[Option.bind_some,q1,Option.some.injEq];apply Array.ext';rw[q2];simp[Lib.pow10Tab]
theorem ae4(n:Int)(h0: -9223372036854775808<=n)(h1:n<=9223372036854775807):aJ prog 198 [.c (.d (.i .i64 n))] (.c (.d (.s (Lib.itoa n)))):=fun S=>by
 refine⟨⟨_,func198,by kernel_rfl,by kernel_rfl⟩,fun w σ β vs hS hv=> ?_⟩;obtain⟨v,rfl,hr,_⟩:=ae3 hv
 have hv0:v=.int .i64 n:=by cases hr;rfl
 subst hv0;refine(Tryz.strconv_Itoa n h0 h1 w (MX hS.rH)).mono fun e w' ⟨he,k,os,hw⟩=> ?_;subst hw;have hg:Grow w σ (Go.Sort.grow (w.drewN k) os) σ:=WG hS.live;exact⟨_,.c (.d (.s (Lib.itoa n))),S,σ,β,he,hS.grow hg,Keep.refl _ _,Step.mR hg,⟨.s _,rfl⟩,rfl,rfl⟩
theorem IK(n:Int)(h0: -9223372036854775808<=n)(h1:n<=9223372036854775807):aJ prog 167 [.c (.d (.i .i64 n))] (.c (.d (.s (Lib.itoa n)))):=fun S=>by
 refine zcx [.tmp 2] func167 ntmps167 ?_;simp -implicitDefEqProofs (disch:=omega) only[go_sem];refine aA (ae4 n h0 h1) ?_;simp -implicitDefEqProofs (disch:=omega) only[go_sem]<;>(repeat(with_reducible refine And.intro ?_ ?_;focus first|omega|rfl|assumption|exact⟨_,rfl,rfl⟩|(simp;omega)|(simp;done)))
end Go.Ab