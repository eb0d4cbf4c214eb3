/-
  SEVERAL TEXTS IN ONE (merged by program): contracts and models, each with its own heading.
-/
import Derived.Test.YtnceiannponbjaaGreatDoorPartDjbD
import Derived.Test.YtnceiannponbjaaGreatDoorPartDjbG
import Derived.Lib.ItoaNum
import Derived.Shelf.LaysM
import Derived.Shelf.Strconv.Itoa3
import Derived.Test.YtnceiannponbjaaGreatDoorProg
open Go.Proofs Go.Proofs.Tryz
set_option linter.unusedSimpArgs false
set_option linter.unusedVariables false
set_option maxRecDepth 4000
namespace Go.Ab
def bB(s:List UInt8):ah:=.mk s []
def fu(l:List ah):ah:=.mk [] l
def aU(l:List (List UInt8)):List ah:=l.map bB
def eu:ah:=.mk [] []
theorem uY(s:List UInt8):(bB s).aM=s:=rfl
theorem uZ(s:List UInt8):(bB s).aj=[]:=rfl
theorem eP(l:List ah):(fu l).aM=[]:=rfl
theorem dN(l:List ah):(fu l).aj=l:=rfl
def CB:List UInt8:=[100,121,110]
def l7:List UInt8:=[97,115,115,111,99]
mutual
def eH:ak->ah
 | .mk k n zs=>if k=1 then bB ([39]++n) else if k=4 then fu [bB CB,bB n] else if k=2/\zs.length=0 then bB n else
   fu ((if k=3 then [bB l7] else [])++[bB n]++zw zs)
def zw:List ak->List ah
 |[]=>[]
 |t::ts=>eH t::zw ts
end
theorem vP:∀l,zw l=l.map eH
 |[]=>rfl
 |t::ts=>by rw[zw,List.map_cons,vP ts]
theorem YS(x:ak):eH x=if x.aH=1 then bB ([39]++x.fName) else if x.aH=4 then fu [bB CB,bB x.fName] else if x.aH=2/\x.fArgs.length=0 then bB x.fName else
 fu ((if x.aH=3 then [bB l7] else [])++[bB x.fName]++x.fArgs.map eH):=by
 cases x;rw[eH,vP];rfl
theorem qU{t:ak}(h:lF t=true):formed t=true:=(iR h).1
theorem gM(x:ah):x.sz=x.aM.length+(x.aj.length+bA (x.aj.map ah.enc)):=by
 simp only[ah.sz,ah.aB,bG,D.sz,List.length_map];omega
def dz:List ah->Nat
 |[]=>0
 |x::xs=>x.sz+dz xs
theorem jf:∀l,bA (l.map ah.enc)=dz l
 |[]=>rfl
 |x::xs=>by rw[List.map_cons,bA,dz,jf xs];rfl
theorem kY:∀a b,dz (a++b)=dz a+dz b
 |[],b=>by simp[dz]
 |x::a,b=>by rw[List.cons_append,dz,dz,kY a b];omega
theorem jq{x:ah}:∀{l:List ah},x∈l->x.sz<=dz l
 |y::l,h=>by
  rw[dz];rcases List.mem_cons.1 h with rfl|h
  ·omega
  ·have:=jq h;omega
theorem lS(s:List UInt8):(bB s).sz=s.length:=by rw[gM];simp[bB,ah.aM,ah.aj,bA]
theorem tX(l:List ah):(fu l).sz=l.length+dz l:=by rw[gM,jf];simp[fu,ah.aM,ah.aj]
theorem Ei:∀l:List (List UInt8),dz (aU l)=(l.map List.length).sum
 |[]=>rfl
 |s::l=>by rw[aU,List.map_cons,dz,lS,<-aU,Ei l,List.map_cons,List.sum_cons]
theorem lI(l:List (List UInt8)):(aU l).length=l.length:=by simp[aU]
theorem qj:∀l:List (List UInt8),bA (l.map encS)=(l.map List.length).sum
 |[]=>rfl
 |s::l=>by rw[List.map_cons,bA,qj l,List.map_cons,List.sum_cons];simp[encS,bG,D.sz]
def qV:List ak->Nat
 |[]=>0
 |x::xs=>x.sz+qV xs
theorem PW:∀l,bA (l.map ak.enc)=qV l
 |[]=>rfl
 |x::xs=>by rw[List.map_cons,bA,qV,PW xs];rfl
theorem qW(x:ak):x.sz=x.fName.length+(x.fArgs.length+qV x.fArgs):=by
 rw[<-PW];simp only[ak.sz,ak.aB,bG,D.sz,List.length_map];omega
mutual
theorem Ej:∀x:ak,(eH x).sz<=12+16*x.sz
 | .mk k n zs=>by
   have h:=Tj zs;rw[qW];simp only[ak.fName,ak.fArgs];rw[eH];split
   ·rw[lS];simp;omega
   ·split
    ·rw[tX];simp[dz,lS,CB];omega
    ·split
     ·rw[lS];omega
     ·rw[tX,kY,kY,List.length_append,List.length_append,vP,List.length_map,<-vP];split<;>simp[dz,lS,l7]<;>omega
theorem Tj:∀xs:List ak,dz (zw xs)<=12*xs.length+16*qV xs
 |[]=>by simp[zw,dz]
 |x::xs=>by
  have h1:=Ej x;have h2:=Tj xs;rw[zw,dz,qV,List.length_cons];omega
end
def jg(b:UInt8):Bool:=decide (97<=b.toNat/\b.toNat<=122)||decide (48<=b.toNat/\b.toNat<=57)||decide (b∈([39,45,43,42,60,61,46]:List UInt8))
def validAtom(s:List UInt8):Bool:=s.all jg&&decide (1<=s.length/\s.length<=12)
mutual
def iO:ah->Bool
 | .mk a l=>if a=[] then iK l else validAtom a&&decide (l.length=0)
def iK:List ah->Bool
 |[]=>true
 |x::xs=>iO x&&iK xs
end
mutual
def ku:ah->Nat
 | .mk a l=>if a=[] then mO l+1 else 0
def mO:List ah->Nat
 |[]=>0
 |x::xs=>max (ku x) (mO xs)
end
mutual
def jG:ah->Nat
 | .mk _ l=>lJ l+1
def lJ:List ah->Nat
 |[]=>0
 |x::xs=>jG x+lJ xs
end
theorem zx(x:ah):iO x=if x.aM=[] then iK x.aj else validAtom x.aM&&decide (x.aj.length=0):=by cases x;rw[iO];rfl
theorem LZ(x:ah):ku x=if x.aM=[] then mO x.aj+1 else 0:=by cases x;rw[ku];rfl
theorem PX(x:ah):jG x=lJ x.aj+1:=by cases x;rw[jG];rfl
theorem JA:∀{l:List ah},(l.any fun t=> !iO t)= !iK l
 |[]=>rfl
 |t::ts=>by rw[List.any_cons,JA (l:=ts),iK];simp
theorem yB:∀{l:List ah},iK l=true<->∀t∈l,iO t=true
 |[]=>by simp[iK]
 |t::ts=>by simp[iK,yB (l:=ts)]
mutual
theorem AP:∀x:ah,ku x<=jG x
 | .mk a l=>by
   have:=El l;rw[ku,jG];split<;>omega
theorem El:∀l:List ah,mO l<=lJ l
 |[]=>by simp[mO]
 |x::xs=>by
  have h1:=AP x;have h2:=El xs;rw[mO,lJ];omega
end
mutual
theorem PY:∀x:ah,jG x<=x.sz+1
 | .mk a l=>by
   have:=L6 l;rw[gM,jG,jf];simp only[ah.aM,ah.aj];omega
theorem L6:∀l:List ah,lJ l<=l.length+dz l
 |[]=>by simp[lJ]
 |x::xs=>by
  have h1:=PY x;have h2:=L6 xs;rw[lJ,dz,List.length_cons];omega
end
def ig(x:ah):Bool:=iO x&&decide (ku x<=14/\jG x<=900)
mutual
theorem PZ:∀x:ah,iO x=true->x.sz+1<=13*jG x
 | .mk a l=>fun h=>by
   rw[iO] at h;rw[gM,jG,jf];simp only[ah.aM,ah.aj];split at h
   ·rename_i ha;have:=L8 l h;subst ha;simp only[List.length_nil];omega
   ·rw[Bool.and_eq_true,decide_eq_true_eq] at h;have h1:=h.1;unfold validAtom at h1;rw[Bool.and_eq_true,decide_eq_true_eq] at h1;have:l=[]:=List.eq_nil_of_length_eq_zero h.2;subst this;simp[dz];omega
theorem L8:∀l:List ah,iK l=true->l.length+dz l<=13*lJ l
 |[],_=>by simp[dz]
 |x::xs,h=>by
  rw[iK,Bool.and_eq_true] at h;have h1:=PZ x h.1;have h2:=L8 xs h.2;rw[dz,lJ,List.length_cons];omega
end
theorem L9{x:ah}(h:ig x=true):x.sz<=11700:=by
 unfold ig at h;rw[Bool.and_eq_true,decide_eq_true_eq] at h;have:=PZ x h.1;omega
def Gg(x:ah):ah:=if ig x=true then x else eu
def vQ:Bool->ah->ah
 |true,x=>Gg x
 |false,_=>eu
theorem af0(x:ah):(Gg x).sz<=11700:=by
 unfold Gg;split
 ·rename_i h;exact L9 h
 ·rw[gM];simp[eu,ah.aM,ah.aj,bA]
theorem yK(b:Bool)(x:ah):(vQ b x).sz<=11700:=by
 cases b with
 |true=>exact af0 x
 |false=>rw[vQ,gM];simp[eu,ah.aM,ah.aj,bA]
mutual
def nU:D->Nat
 | .sl es=>lT es+1
 | .ol _ _=>0
 | .b _=>0
 | .i _ _=>0
 | .s _=>0
 | .o _=>0
def pO:List D->Nat
 |[]=>0
 |d::ds=>nU d+pO ds
def lT:List (List D)->Nat
 |[]=>0
 |r::rs=>pO r+lT rs
end
mutual
def kC:D->Nat->D
 | .sl es,n=>.ol n (dU es (n+1))
 | .ol m es,_=>.ol m es
 | .b x,_=>.b x
 | .i k x,_=>.i k x
 | .s l,_=>.s l
 | .o v,_=>.o v
def dL:List D->Nat->List D
 |[],_=>[]
 |d::ds,n=>kC d n::dL ds (n+nU d)
def dU:List (List D)->Nat->List (List D)
 |[],_=>[]
 |r::rs,n=>dL r n::dU rs (n+pO r)
end
mutual
def mI:D->Bool
 | .sl es=>iG es
 | .ol _ _=>false
 | .b _=>true
 | .i _ _=>true
 | .s _=>true
 | .o _=>false
def gW:List D->Bool
 |[]=>true
 |d::ds=>mI d&&gW ds
def iG:List (List D)->Bool
 |[]=>true
 |r::rs=>gW r&&iG rs
end
theorem Gh:∀a b n,dL (a++b) n=dL a n++dL b (n+pO a)
 |[],b,n=>by simp[dL,pO]
 |d::ds,b,n=>by rw[List.cons_append,dL,dL,Gh ds b,pO,Nat.add_assoc];rfl
theorem oF:∀a b n,dU (a++b) n=dU a n++dU b (n+lT a)
 |[],b,n=>by simp[dU,lT]
 |d::ds,b,n=>by rw[List.cons_append,dU,dU,oF ds b,lT,Nat.add_assoc];rfl
theorem iB:∀r n,(dL r n).length=r.length
 |[],_=>rfl
 |d::ds,n=>by rw[dL,List.length_cons,iB ds,List.length_cons]
theorem jw:∀rs n,(dU rs n).length=rs.length
 |[],_=>rfl
 |r::rs,n=>by rw[dU,List.length_cons,jw rs,List.length_cons]
theorem yC{z:Nat}:∀{rs:List (List D)}{n:Nat},(∀r∈rs,r.length=z)->∀r∈dU rs n,r.length=z
 |[],_,_,r,h=>by rw[dU] at h;cases h
 |a::rs,n,ha,r,h=>by
  rw[dU] at h;rcases List.mem_cons.1 h with e|h
  ·rw[e,iB];exact ha a (by simp)
  ·exact yC (fun r hr=>ha r (by simp[hr])) r h
theorem fU:∀a b,gW (a++b)=(gW a&&gW b)
 |[],b=>by simp[gW]
 |d::ds,b=>by rw[List.cons_append,gW,gW,fU ds b,Bool.and_assoc]
theorem jL{α:Type}{f:α->List D}:∀{xs:List α},(∀x∈xs,gW (f x)=true)->iG (xs.map f)=true
 |[],_=>rfl
 |x::xs,h=>by
  rw[List.map_cons,iG,h x (by simp),jL fun y hy=>h y (by simp[hy])];rfl
section
variable {P:Program} {w:World} {σ σ':Nat->Nat} {S:Store} {β:Hs} {N:Nat} {s:St}
mutual
theorem abW:∀(d:D)(n:Nat)(v:Value),bS w σ (kC d n) v->bS w σ d v
 | .sl es,n,v,h=>by
   rw[kC] at h;have hl:=jw es (n+1);have hrec:=VO es (n+1);generalize dU es (n+1)=q at h hl hrec
   cases h with
   |nP n a cap=>
    have:es=[]:=List.eq_nil_of_length_eq_zero (by simpa using hl.symm);subst this;exact .nil a cap
   |ol n b off cap aK q vals c t hcap hlen hb hσ hfit hc hv hx=>
    obtain⟨r1,r2⟩:=hrec vals hv;rw[hl] at hcap hfit hc ⊢;refine .sl b off cap aK es vals c t (0,0) hcap (fun e he=> ?_) hb (by omega) hc r2;obtain⟨e',h1,h2⟩:=r1 e he;rw[<-h2];exact hlen e' h1
 | .ol m es,n,v,h=>h
 | .b x,n,v,h=>h
 | .i k x,n,v,h=>h
 | .s l,n,v,h=>h
 | .o u,n,v,h=>h
theorem af2:∀(r:List D)(n:Nat)(vals:Nat->Value),(∀j d,(dL r n)[j]? =some d->bS w σ d (vals j))->∀(j:Nat) d,r[j]? =some d->bS w σ d (vals j)
 |[],n,vals,h,j,d,hd=>by simp at hd
 |a::r,n,vals,h,j,d,hd=>by
  cases j with
  |zero=>
   simp at hd;subst hd;exact abW a n _ (h 0 _ rfl)
  |succ j=>exact af2 r (n+nU a) (fun i=>vals (i+1)) (fun i d hi=>h (i+1) d (by rw[dL];exact hi)) j d hd
theorem VO:∀(rs:List (List D))(n:Nat)(vals:Nat->Value),(∀j d,(dU rs n).flatten[j]? =some d->bS w σ d (vals j))->
 (∀e∈rs,∃e'∈dU rs n,e'.length=e.length)/\∀(j:Nat) d,rs.flatten[j]? =some d->bS w σ d (vals j)
 |[],n,vals,h=>⟨fun e he=>(by cases he),fun j d hd=>(by simp at hd)⟩
 |r::rs,n,vals,h=>by
  rw[dU,List.flatten_cons] at h;have h1:=af2 r n vals fun j d hd=>h j d (by rw[List.getElem?_append_left (List.getElem?_eq_some_iff.1 hd).1];exact hd);obtain⟨h2,h3⟩:=VO rs (n+pO r) (fun i=>vals (r.length+i)) fun j d hd=>h (r.length+j) d (by rw[List.getElem?_append_right (by rw[iB];omega),iB,Nat.add_sub_cancel_left];exact hd);refine⟨fun e he=> ?_,fun j d hd=> ?_⟩
  ·rcases List.mem_cons.1 he with e1|he
   ·subst e1;exact⟨_,by rw[dU];exact List.mem_cons_self ..,iB _ _⟩
   ·obtain⟨e',q1,q2⟩:=h2 e he;exact⟨e',by rw[dU];exact List.mem_cons_of_mem _ q1,q2⟩
  ·rw[List.flatten_cons] at hd;by_cases hj:j<r.length
   ·rw[List.getElem?_append_left hj] at hd;exact h1 j d hd
   ·rw[List.getElem?_append_right (by omega)] at hd;have:=h3 (j-r.length) d hd
    rwa [show r.length+(j-r.length)=j by omega] at this
end
theorem zy{r:List D}{n:Nat}:Less (.agg ((dL r n).map .d)) (.agg (r.map .d)):=by
 rintro w σ S β v ⟨a,ha,hl,hc⟩;rw[List.length_map,iB] at hl;refine⟨a,ha,by rw[List.length_map];exact hl,?_⟩
 have key:∀(r:List D)(n:Nat)(vs:List Value),(∀(j:Nat)(x:C),((dL r n).map C.d)[j]? =some x->∃v:Value,vs[j]? =some v/\fH w σ S β x v/\v.oneCell'=true)->
  ∀(j:Nat)(x:C),(r.map C.d)[j]? =some x->∃v:Value,vs[j]? =some v/\fH w σ S β x v/\v.oneCell'=true:=by
  intro r
  induction r with
  |nil=>intro n vs h j x hx;simp at hx
  |cons d ds ih=>
   intro n vs h j x hx
   cases j with
   |zero=>
    simp at hx;subst hx;obtain⟨v,h1,h2,h3⟩:=h 0 (.d (kC d n)) rfl;exact⟨v,h1,abW d n v h2,h3⟩
   |succ j=>
    have:=ih (n+nU d) vs.tail (fun i y hy=>by
     obtain⟨v,h1,h2⟩:=h (i+1) y (by rw[dL,List.map_cons];exact hy);refine⟨v,?_,h2⟩
     cases vs with
     |nil=>simp at h1
     |cons a b=>exact h1) j x hx
    obtain⟨v,h1,h2⟩:=this;refine⟨v,?_,h2⟩
    cases vs with
    |nil=>simp at h1
    |cons a b=>exact h1
 exact key r n _ hc
theorem Ma{r:List D}{n:Nat}{w:World}{σ:Nat->Nat}{S:Store}{β:Hs}{vs:List Value}(h:dS w σ S β ((dL r n).map .d) vs):dS w σ S β (r.map .d) vs:=by
 obtain⟨a,ha,hc⟩:=zy w σ S β (.agg vs.toArray) ⟨vs.toArray,rfl,by simpa using h⟩;cases ha;simpa using hc
inductive pV:List V->List V->Prop
 |nil:pV [] []
 |cons {x y:V} {xs ys:List V}:Less x y->pV xs ys->pV (x::xs) (y::ys)
theorem pV.length:∀{xs ys:List V},pV xs ys->xs.length=ys.length
 |_,_,.nil=>rfl
 |_,_,.cons _ h=>by rw[List.length_cons,List.length_cons,pV.length h]
theorem pV.at:∀{xs ys:List V},pV xs ys->∀(j:Nat)(x y:V),xs[j]? =some x->ys[j]? =some y->Less x y
 |_,_,.nil,j,x,y,h,_=>by simp at h
 |_,_,.cons a h,0,x,y,h1,h2=>by simp at h1 h2;subst h1;subst h2;exact a
 |_,_,.cons a h,j+1,x,y,h1,h2=>pV.at h j x y (by simpa using h1) (by simpa using h2)
theorem aG.args{f:FuncId}{args args':List V}{r:V}(h:aG P f args' r)(hl:pV args args'):aG P f args r:=fun S=>(h S).weaken hl.length fun j x y hx hy w σ β v hr=>hl.at j x y hx hy w σ S β v hr
theorem Em{dr:Option Nat}{f:FuncId}{args args':List V}{dst:Option Nat}{K:St->Prop}{r:V}(h:aG P f args' r)(hl:pV (args.map V.qA) args')(hK:K (s.put dst r)):gB P dr f args s dst K:=ay (h.args hl) hK
def abX(row:Bool)(j n:Nat)(es:List (List D))(tm:List (Nat×V)):List (Nat×V):=tm.map fun x=>(x.1,x.2.jr (C.lab row j n es))
theorem YT{row:Bool}{j n:Nat}{es:List (List D)}{tm:List (Nat×V)}{t:Nat}:look (abX row j n es tm) t=(look tm t).jr (C.lab row j n es):=Ci (f:=V.jr (C.lab row j n es)) rfl tm t
def VP(j n:Nat)(tm:List (Nat×V))(own:List Obj)(Ω:Store):Option Obj->St
 |some (.dG _ es)=>⟨abX true j n es tm,(own.map (Obj.jr (C.lab true j n es))).set j .dead::Ω⟩
 |some (.dY m _ es)=>⟨abX false j m es tm,(own.map (Obj.jr (C.lab false j m es))).set j .dead::Ω⟩
 |_=>⟨tm,own::Ω⟩
def NG(j n:Nat)(s:St):St:=
 match s.st with
 |own::Ω=>VP j n s.tm own Ω (own[j]?)
 |[]=>s
def JB:Nat->Nat->St->St
 |0,_,s=>s
 |k+1,n,s=>JB k n (NG k n s)
def Bt(n:Nat)(s:St):St:=
 match s.st with
 |own::_=>JB own.length n s
 |[]=>s
theorem Gi(j n:Nat)(s:St):fG N s (NG j n s):=by
 obtain⟨tm,st⟩:=s
 cases st with
 |nil=>exact fG.refl _ _
 |cons own Ω=>
  show fG N ⟨tm,own::Ω⟩ (VP j n tm own Ω (own[j]?))
  cases ho:own[j]? with
  |none=>exact fG.refl _ _
  |some o=>
   cases o with
   |dG z es=>exact fun a w σ β hR=>SX j n z es true ho hR
   |dY m z es=>exact fun a w σ β hR=>SX j m z es false ho hR
   |_=>exact fG.refl _ _
theorem Gj:∀(k n:Nat)(s:St),fG N s (JB k n s)
 |0,n,s=>fG.refl _ _
 |k+1,n,s=>(Gi k n s).trans (Gj k n _)
theorem En(n:Nat)(s:St):fG N s (Bt n s):=by
 unfold Bt;split
 ·exact Gj _ _ _
 ·exact fG.refl _ _
theorem abY{j n:Nat}{tm:List (Nat×V)}{own:List Obj}{Ω:Store}:NG j n ⟨tm,own::Ω⟩=VP j n tm own Ω (own[j]?):=rfl
theorem YU{n:Nat}{tm:List (Nat×V)}{own:List Obj}{Ω:Store}:Bt n ⟨tm,own::Ω⟩=JB own.length n ⟨tm,own::Ω⟩:=rfl
def VQ(P:Program)(n:Nat)(rs:List ResultVar)(post:V->Store->Prop)(e:Exit)(s:St):Prop:=Z0 P rs post e (Bt n s)
theorem abZ{n:Nat}{rs:List ResultVar}{post:V->Store->Prop}:VQ P n rs post .ret s=O7 P rs post (Bt n s):=rfl
theorem R6{n:Nat}{rs:List ResultVar}{post:V->Store->Prop}:VQ P n rs post .normal s=O7 P rs post (Bt n s):=rfl
theorem lK(n:Nat){f:FuncId}{fn:Func}{c:Code}{args:List V}{post:V->Store->Prop}{rs:List ResultVar}(eZ:P.follows .mixedOrders=true)(hf:P.funcs[f]? =some fn)(hN:fn.ntmps=N)
 (hb:fn.body=some c) (hn:(fn.name== "runtime.NumGoroutine")=false) (hr:fn.results.toList=rs) (hl:Nat.ble args.length N=true) (hok:codeOk N c=true)
 (h:CW P N c (VQ P n rs post) ⟨jW (args.map (V.up 1)) 0,[.seed n]::S⟩):bF P f args S post:=by
 subst hN;subst hr;exact qb hf hb hn (Nat.le_of_ble_eq_true hl) (KC n (y7 (En n) (je eZ c _ _ hok h)))
theorem ab0{row:Bool}{j n l i:Nat}{es es':List (List D)}:C.lab row j n es (.bL (1+l,i) es')=.bL (1+l,i) es':=by rw[Nat.add_comm];rfl
theorem ab1{row:Bool}{j n i:Nat}{es es':List (List D)}:C.lab row j n es (.bL (0,i) es')=if i=j/\row=false/\es'.length=es.length then .d (.ol n es) else .bL (0,i) es':=rfl
theorem ab2{row:Bool}{j n l i:Nat}{es:List (List D)}:C.lab row j n es (.gy (1+l,i))=.gy (1+l,i):=by rw[Nat.add_comm];rfl
theorem ab3{row:Bool}{j n i:Nat}{es:List (List D)}:C.lab row j n es (.gy (0,i))=if i=j/\row=true then .d (.ol n es) else .gy (0,i):=rfl
theorem ahN{row:Bool}{j n:Nat}{es:List (List D)}{x:D}:C.lab row j n es (.d x)=.d x:=rfl
theorem aer{row:Bool}{j n:Nat}{es:List (List D)}:C.lab row j n es .any=.any:=rfl
theorem aes{row:Bool}{j n:Nat}{es es':List (List D)}:C.lab row j n es (.bE es')=.bE es':=rfl
theorem aeu{row:Bool}{j n m:Nat}{es es':List (List D)}:C.lab row j n es (.iX m es')=.iX m es':=rfl
theorem aev{row:Bool}{j n off:Nat}{es:List (List D)}{k:Key}:C.lab row j n es (.ptr k off)=.ptr k off:=rfl
theorem af3{row:Bool}{j n f:Nat}{es:List (List D)}{caps:List (Key×Nat)}:C.lab row j n es (.fn f caps)=.fn f caps:=rfl
theorem ab4{row:Bool}{j n:Nat}{es:List (List D)}{cs:List D}:C.lab row j n es (.jY cs)=.jY cs:=rfl
theorem P5{ι:Type}{ts:List Nat}{f:ι->List V}{g:ι->Store}{p:ι->Prop}{μ:ι->Nat}{i:ι}{tm:List (Nat×V)}{own:List Obj}{Ω:Store}{m:Nat}(m' n:Nat)(hnd:ts.Nodup)(j:ι)(h1:μ j<μ i)(h2:ts.map (look tm)=f j)(h3:(Obj.seed m'::own.take n)::Ω=g j)
 (hr:lX (n+1) (iN ts (f j))=true)(ho:(own.take n).all (Obj.refs (n+1))=true)(h4:p j):Inv N ts f g p μ i ⟨tm,(.seed m::own)::Ω⟩:=by
 refine⟨j,⟨iN ts (f j),(.seed m'::own.take n)::Ω⟩,h1,?_,?_,h3,h4⟩
 ·have hg:fG N ⟨tm,(.seed m::own)::Ω⟩ ⟨iN ts (f j),(.seed m::own)::Ω⟩:=by
   rw[<-h2];exact GJ fun t=>vL _ ts t
  refine hg.trans ((IE (n+1) hr ?_).trans (y5 m'));rw[List.take_succ_cons,List.all_cons,ho];rfl
 ·exact za ts (f j) hnd (by rw[<-h2];simp)
end
attribute [go_sem ↓] abZ R6 YU
attribute [go_sem] JB abY VP YT V.jr Obj.jr ab0 ab1 ab2 ab3 ahN aer aes aeu aev af3 ab4
section
variable {P:Program} {N:Nat} {S:Store} {s:St} {tm:List (Nat×V)}
end
theorem VR{P:Program}{N:Nat}(n:Nat){f:FuncId}{fn:Func}{c:Code}{args:List V}{bD:List Obj}{Ω:Store}{post:V->Store->Prop}{rs:List ResultVar}(eZ:P.follows .mixedOrders=true)(hf:P.funcs[f]? =some fn)(hN:fn.ntmps=N)
 (hb:fn.body=some c) (hn:(fn.name== "runtime.NumGoroutine")=false) (hr:fn.results.toList=rs) (hl:Nat.ble args.length N=true) (hok:codeOk N c=true)
 (h:CW P N c (Pk P rs post) ⟨jW (args.map (V.up 1)) 0,[.seed n]::bD::Ω⟩):bF P f args (bD::Ω) post:=by
 subst hN;subst hr;exact LC hf hb hn (Nat.le_of_ble_eq_true hl) (KC n (je eZ c _ _ hok h))
theorem ab5{P:Program}{N:Nat}{c:Code}{Q:Exit->St->Prop}{tm:List (Nat×V)}{Ω:Store}(n k:Nat)(h:AW P N c Q ⟨tm,[.seed n,.seed k]::Ω⟩):AW P N c Q ⟨tm,[]::Ω⟩:=by
 refine KC n (j6 h fun a w σ β hR=> ?_);obtain⟨bo,bΩ,rfl,hlen⟩:=frames hR;obtain⟨hS',hk,hst⟩:=hR.S.push (o:=.seed k) (h:=undef) (Grow.refl hR.S.live) hlen trivial (fun b hb=>by cases hb);exact⟨σ,_,⟨hR.size,hR.defers,hS',fun u=>(hR.T u).mono (dH.refl _ _) hk⟩,hst,Keep.refl _ _⟩
section
variable {P:Program} {N:Nat} {S:Store}
theorem CF(n k:Nat){f:FuncId}{fn:Func}{c:Code}{args:List V}{post:V->Store->Prop}{rs:List ResultVar}(eZ:P.follows .mixedOrders=true)(hf:P.funcs[f]? =some fn)(hN:fn.ntmps=N)
 (hb:fn.body=some c) (hn:(fn.name== "runtime.NumGoroutine")=false) (hr:fn.results.toList=rs) (hl:Nat.ble args.length N=true) (hok:codeOk N c=true)
 (h:CW P N c (VQ P n rs post) ⟨jW (args.map (V.up 1)) 0,[.seed n,.seed k]::S⟩):bF P f args S post:=by
 subst hN;subst hr;exact qb hf hb hn (Nat.le_of_ble_eq_true hl) (ab5 n k (y7 (En n) (je eZ c _ _ hok h)))
end
section
variable {P:Program} {w w':World} {σ σ':Nat->Nat} {S:Store} {β:Hs}
def oG(w:World)(σ:Nat->Nat)(lo hi b:Nat):Prop:=∃c t fz m,w.heap[b]? =some (.cells c t fz)/\σ b=c.size+1+m/\lo<=m/\m<hi
theorem oG.mono{lo hi lo' hi' b:Nat}(h:oG w σ lo hi b)(h1:lo'<=lo)(h2:hi<=hi'):oG w σ lo' hi' b:=by
 obtain⟨c,t,fz,m,a1,a2,a3,a4⟩:=h;exact⟨c,t,fz,m,a1,a2,by omega,by omega⟩
theorem oG.apart{lo hi lo' hi' b:Nat}(h:oG w σ lo hi b)(h':oG w σ lo' hi' b)(ho:hi<=lo'):False:=by
 obtain⟨c,t,fz,m,a1,a2,a3,a4⟩:=h;obtain⟨c',t',Oe,m',b1,b2,b3,b4⟩:=h';rw[a1] at b1;cases b1;omega
abbrev Kids:=List (List (Option Value))
def kJ(rows:Kids)(i o:Nat):Option Value:=((rows[i]?).bind fun r=>r[o]?).bind id
def ac6(rows:Kids):Array Value:=(rows.map fun r=>Value.tuple (r.map fun u=>u.getD (.bool false)).toArray).toArray
def mkT(v:Value)(rows:Kids):Value:=.tuple #[v,.tuple (ac6 rows)]
theorem Tk{v:Value}{rows:Kids}:hdr (mkT v rows)=some v:=rfl
def IsT(v:Value):Prop:=∃a,v=.tuple a
theorem K3{v:Value}{rows:Kids}(h:∀i o u,kJ rows i o=some u->IsT u)(i o:Nat):kid (mkT v rows) i o=kJ rows i o:=by
 have h':=h i o
 unfold kid mkT ac6 kJ at *
 simp only[List.getElem?_toArray,List.getElem?_cons_succ,List.getElem?_cons_zero,List.getElem?_map]
 cases hr:rows[i]? with
 |none=>rfl
 |some r=>
  rw[hr] at h';simp only[Option.map_some,List.getElem?_toArray,List.getElem?_map]
  cases hu:r[o]? with
  |none=>simp[hu]
  |some u=>
   simp only[Option.bind_some,hu,id] at h'
   cases u with
   |none=>simp[hu]
   |some u=>
    obtain⟨a,rfl⟩:=h' u rfl;simp[hu]
def NH(w:World)(d:D)(v:Value)(u:Option Value):Prop:=
 match d with
 | .sl es=>∃T,u=some T/\IsT T/\hdr T=some v/\ny w es T
 |d=>u=none/\SD d v
theorem G5{z:Nat}:∀{rs:List (List D)}{n:Nat},(∀r∈dU rs n,r.length=z)->∀r∈rs,r.length=z
 |[],_,_,r,h=>by cases h
 |a::rs,n,ha,r,h=>by
  rw[dU] at ha;rcases List.mem_cons.1 h with e|h
  ·subst e;rw[<-iB r n];exact ha _ (by simp)
  ·exact G5 (n:=n+pO a) (fun r hr=>ha r (by simp[hr])) r h
structure ajd(w:World)(σ:Nat->Nat)(r:List D)(n m:Nat)(vals:Nat->Value)(us:List (Option Value)):Prop where
 len:us.length=r.length
 cell:∀(j:Nat)(d:D),r[j]? =some d->∃u,us[j]? =some u/\NH w d (vals j) u
 own:∀(j:Nat)(u:Value),us[j]? =some (some u)->∀b,jZ u b->oG w σ n m b
 apart:∀(j j':Nat)(u u':Value)(b:Nat),j≠j'->us[j]? =some (some u)->us[j']? =some (some u')->jZ u b->jZ u' b->False
structure ahO(w:World)(σ:Nat->Nat)(z:Nat)(rs:List (List D))(n m:Nat)(vals:Nat->Value)(U:Kids):Prop where
 cell:∀(i o:Nat)(d:D),cellAt rs i o=some d->∃u,((U[i]?).bind fun r=>r[o]?)=some u/\NH w d (vals (i*z+o)) u
 kid:∀(i o:Nat)(u:Value),kJ U i o=some u->∃es,cellAt rs i o=some (.sl es)
 own:∀(i o:Nat)(u:Value),kJ U i o=some u->∀b,jZ u b->oG w σ n m b
 apart:∀(i o i' o':Nat)(u u':Value)(b:Nat),(i,o)≠(i',o')->kJ U i o=some u->kJ U i' o'=some u'->jZ u b->jZ u' b->False
theorem u6{us:List (Option Value)}{U:Kids}{o:Nat}{u:Value}:kJ (us::U) 0 o=some u<->us[o]? =some (some u):=by
 show(us[o]?).bind id=some u<->_
 cases us[o]? with
 |none=>simp
 |some x=>simp
mutual
theorem ahP:∀(d:D)(n:Nat)(v:Value),mI d=true->bS w σ (kC d n) v->∃u,NH w d v u/\∀T,u=some T->∀b,jZ T b->oG w σ n (n+nU d) b
 | .sl es,n,v,hp,h=>by
   rw[kC] at h;have hl:=jw es (n+1);have hrec:=YV es (n+1);have hrow:=fun z=>G5 (z:=z) (rs:=es) (n:=n+1);generalize dU es (n+1)=q at h hl hrec hrow
   have hempty:∀a cap,es=[]->v=.slice a 0 cap->∃u,NH w (.sl es) v u/\∀T,u=some T->∀b,jZ T b->oG w σ n (n+nU (.sl es)) b:=by
    rintro a cap rfl rfl
    have hk:∀i o,kid (mkT (.slice a 0 cap) []) i o=none:=fun i o=>by rw[K3 (fun i o u h=>by simp[kJ] at h)];simp[kJ]
    refine⟨some (mkT (.slice a 0 cap) []),⟨_,rfl,⟨_,rfl⟩,rfl,.nil a cap _ rfl hk⟩,fun T hT b hb=> ?_⟩;cases hT;exfalso
    cases hb with
    |here h1 h2=>rw[Tk] at h1;cases h1;omega
    |kid h1 h2=>rw[hk] at h1;cases h1
   cases h with
   |nP n a cap=>exact hempty a cap (List.eq_nil_of_length_eq_zero (by simpa using hl.symm)) rfl
   |ol n b off cap z q vals c t hcap hlen hb hσ hfit hc hv hx=>
    by_cases hne:es=[]
    ·subst hne
     have hq0:q.length=0:=by simpa using hl
     exact hempty _ _ rfl (by rw[hq0])
    rw[hl] at hcap hfit hc ⊢;obtain⟨U,hU⟩:=hrec z vals (hrow z hlen) (by simpa [mI] using hp) hv;have hrl:=hrow z hlen
    have hT:∀i o u,kJ U i o=some u->IsT u:=fun i o u hu=>by
     obtain⟨es',he⟩:=hU.kid i o u hu;obtain⟨u',h1,h2⟩:=hU.cell i o _ he;obtain⟨T,h3,h4,_⟩:=h2;unfold kJ at hu;rw[h1,h3] at hu;cases hu;exact h4
    have qm:∀i o,kid (mkT (.slice (some ⟨b,off,none⟩) es.length cap) U) i o=kJ U i o:=K3 hT
    have hcell:∀i o es',cellAt es i o=some (.sl es')->∃T,kJ U i o=some T/\hdr T=some (vals (i*z+o))/\ny w es' T:=fun i o es' he=>by
     obtain⟨u',h1,T,h3,h4,h5,h6⟩:=hU.cell i o _ he;refine⟨T,?_,h5,h6⟩;unfold kJ;rw[h1,h3];rfl
    have hself:∀x,oG w σ (n+1) (n+1+lT es) x->x≠b:=by
     rintro x ⟨c',t',Oe,m,a1,a2,a3,a4⟩ rfl;rw[hb] at a1;cases a1;omega
    refine⟨some (mkT (.slice (some ⟨b,off,none⟩) es.length cap) U),⟨_,rfl,⟨_,rfl⟩,rfl,?_⟩,fun T hT' x hx=> ?_⟩
    ·refine .mk b off cap z es _ c t (fun i o=>vals (i*z+o)) (fun i o=>(kJ U i o).getD undef) rfl hne hcap hrl hb hfit (fun i o d hd=> ?_) (fun i o d hd=> ?_) (fun i o es' he=> ?_) (fun i o es' he=> ?_) (fun i o u hu hb'=> ?_) (fun i o i' o' u u' x hio hu hu' h1 h2=> ?_) (fun i o u hu=> ?_)
     ·obtain⟨hi,ho⟩:=vH hd;rw[hrl _ (List.getElem_mem hi)] at ho;refine hc _ ?_;have:(i+1)*z<=es.length*z:=Nat.mul_le_mul_right _ hi;rw[Nat.add_mul,Nat.one_mul] at this;omega
     ·obtain⟨u,h1,h2⟩:=hU.cell i o d hd
      cases d<;>first|exact .inl ⟨_,rfl⟩|exact .inr h2.2
     ·obtain⟨T,h1,h2,h3⟩:=hcell i o es' he;rw[qm,h1];exact⟨rfl,h2⟩
     ·obtain⟨T,h1,h2,h3⟩:=hcell i o es' he;rw[h1];exact h3
     ·rw[qm] at hu;exact hself b (hU.own i o u hu b hb') rfl
     ·rw[qm] at hu hu';exact hU.apart i o i' o' u u' x hio hu hu' h1 h2
     ·rw[qm] at hu;exact hU.kid i o u hu
    ·cases hT'
     cases hx with
     |here h1 h2=>rw[Tk] at h1;cases h1;exact⟨c,t,(0,0),n,hb,hσ,Nat.le_refl _,by rw[nU];omega⟩
     |kid h1 h2=>
      rw[qm] at h1;exact(hU.own _ _ _ h1 _ h2).mono (by omega) (by rw[nU];omega)
 | .ol m es,n,v,hp,h=>by simp[mI] at hp
 | .b x,n,v,hp,h=>by rw[kC] at h;cases h;exact⟨none,⟨rfl,rfl⟩,fun T h=>by cases h⟩
 | .i k x,n,v,hp,h=>by rw[kC] at h;cases h;exact⟨none,⟨rfl,rfl⟩,fun T h=>by cases h⟩
 | .s l,n,v,hp,h=>by rw[kC] at h;cases h;exact⟨none,⟨rfl,rfl⟩,fun T h=>by cases h⟩
 | .o u,n,v,hp,h=>by simp[mI] at hp
theorem VT:∀(r:List D)(n:Nat)(vals:Nat->Value),gW r=true->(∀(j:Nat)(d:D),(dL r n)[j]? =some d->bS w σ d (vals j))->∃us,ajd w σ r n (n+pO r) vals us
 |[],n,vals,hp,h=>⟨[],rfl,fun j d h=>by simp at h,fun j u h=>by simp at h,fun j j' u u' b _ h=>by simp at h⟩
 |d::r,n,vals,hp,h=>by
  rw[gW,Bool.and_eq_true] at hp;rw[dL] at h;obtain⟨u,h1,h2⟩:=ahP d n (vals 0) hp.1 (h 0 _ rfl);obtain⟨us,vC⟩:=VT r (n+nU d) (fun j=>vals (j+1)) hp.2 fun j x hx=>h (j+1) x hx;rw[pO];have hown:∀(j:Nat)(T:Value),us[j]? =some (some T)->∀b,jZ T b->oG w σ (n+nU d) (n+nU d+pO r) b:=vC.own;refine⟨u::us,by rw[List.length_cons,List.length_cons,vC.len],fun j x hx=> ?_,fun j T hT b hb=> ?_,fun j j' T T' b hj hT hT' hb hb'=> ?_⟩
  ·cases j with
   |zero=>simp at hx;subst hx;exact⟨u,rfl,h1⟩
   |succ j=>exact vC.cell j x hx
  ·cases j with
   |zero=>simp at hT;exact(h2 T hT b hb).mono (Nat.le_refl _) (by omega)
   |succ j=>exact(hown j T hT b hb).mono (by omega) (by omega)
  ·cases j with
   |zero=>
    cases j' with
    |zero=>exact hj rfl
    |succ j'=>simp at hT;exact(h2 T hT b hb).apart (hown j' T' hT' b hb') (Nat.le_refl _)
   |succ j=>
    cases j' with
    |zero=>simp at hT';exact(h2 T' hT' b hb').apart (hown j T hT b hb) (Nat.le_refl _)
    |succ j'=>exact vC.apart j j' T T' b (by omega) hT hT' hb hb'
theorem YV:∀(rs:List (List D))(n z:Nat)(vals:Nat->Value),(∀r∈rs,r.length=z)->iG rs=true->(∀(j:Nat)(d:D),(dU rs n).flatten[j]? =some d->bS w σ d (vals j))->∃U,ahO w σ z rs n (n+lT rs) vals U
 |[],n,z,vals,hz,hp,h=>⟨[],fun i o d h=>by simp[cellAt] at h,fun i o u h=>by simp[kJ] at h,fun i o u h=>by simp[kJ] at h,fun i o i' o' u u' b _ h=>by simp[kJ] at h⟩
 |r::rs,n,z,vals,hz,hp,h=>by
  rw[iG,Bool.and_eq_true] at hp;rw[dU,List.flatten_cons] at h;have hrz:r.length=z:=hz r (by simp);obtain⟨us,vC⟩:=VT r n vals hp.1 fun j d hd=>h j d (by rw[List.getElem?_append_left (List.getElem?_eq_some_iff.1 hd).1];exact hd)
  obtain⟨U,hU⟩:=YV rs (n+pO r) z (fun j=>vals (z+j)) (fun r hr=>hz r (by simp[hr])) hp.2 fun j d hd=>h (z+j) d (by
   rw[List.getElem?_append_right (by rw[iB];omega),iB,hrz,Nat.add_sub_cancel_left];exact hd)
  rw[lT];have hown:∀(i o:Nat)(T:Value),kJ U i o=some T->∀b,jZ T b->oG w σ (n+pO r) (n+pO r+lT rs) b:=hU.own;refine⟨us::U,fun i o d hd=> ?_,fun i o u hu=> ?_,fun i o T hT b hb=> ?_,fun i o i' o' T T' b hio hT hT' hb hb'=> ?_⟩
  ·cases i with
   |zero=>
    obtain⟨u,h1,h2⟩:=vC.cell o d hd;exact⟨u,h1,by rw[Nat.zero_mul,Nat.zero_add];exact h2⟩
   |succ i=>
    obtain⟨u,h1,h2⟩:=hU.cell i o d hd;exact⟨u,h1,by rw[show(i+1)*z+o=z+(i*z+o) by rw[Nat.add_mul];omega];exact h2⟩
  ·cases i with
   |zero=>
    rw[u6] at hu
    have ho:o<r.length:=by rw[<-vC.len];exact(List.getElem?_eq_some_iff.1 hu).1
    obtain⟨u',h1,h2⟩:=vC.cell o r[o] (List.getElem?_eq_getElem ho);rw[hu] at h1;cases h1;have hc:cellAt (r::rs) 0 o=some r[o]:=List.getElem?_eq_getElem ho;rw[hc];generalize r[o]=d at h2
    cases d<;>first|exact⟨_,rfl⟩|(cases h2.1)
   |succ i=>exact hU.kid i o u hu
  ·cases i with
   |zero=>rw[u6] at hT;exact(vC.own o T hT b hb).mono (Nat.le_refl _) (by omega)
   |succ i=>exact(hown i o T hT b hb).mono (by omega) (by omega)
  ·cases i with
   |zero=>
    rw[u6] at hT
    cases i' with
    |zero=>rw[u6] at hT';exact vC.apart o o' T T' b (fun e=>hio (by rw[e])) hT hT' hb hb'
    |succ i'=>exact(vC.own o T hT b hb).apart (hown i' o' T' hT' b hb') (Nat.le_refl _)
   |succ i=>
    cases i' with
    |zero=>rw[u6] at hT';exact(vC.own o' T' hT' b hb').apart (hown i o T hT b hb) (Nat.le_refl _)
    |succ i'=>exact hU.apart i o i' o' T T' b (fun e=>hio (by cases e;rfl)) hT hT' hb hb'
end
end
section
variable {P:Program} {w w':World} {σ σ':Nat->Nat} {S:Store} {β:Hs}
def JC:D->List (List D)
 | .sl es=>es
 |_=>[]
def ac8(k:Key)(j:Nat):D->C
 | .sl _=>.xp k j []
 |d=>.d d
def G6(k:Key):Nat->List D->List C
 |_,[]=>[]
 |j,d::ds=>ac8 k j d::G6 k (j+1) ds
theorem AQ{k:Key}:∀(j:Nat)(r:List D),(G6 k j r).length=r.length
 |_,[]=>rfl
 |j,d::ds=>by rw[G6,List.length_cons,AQ,List.length_cons]
theorem Tm{k:Key}:∀(r:List D)(j i:Nat),(G6 k j r)[i]? =(r[i]?).map (ac8 k (j+i))
 |[],j,i=>by simp[G6]
 |d::ds,j,0=>rfl
 |d::ds,j,i+1=>by
  rw[G6,List.getElem?_cons_succ,List.getElem?_cons_succ,Tm ds (j+1) i,show j+1+i=j+(i+1) by omega]
def VU:C->C
 | .d x=>.d x
 | .bE es=>.d (.sl es)
 | .bL _ es=>.d (.sl es)
 | .iX n es=>.d (.ol n es)
 | .jY cs=>.jY cs
 |_=>.any
def Fw:V->V
 | .c x=>.c (VU x)
 | .agg cs=>.agg (cs.map VU)
 |_=>.any
theorem Mc{c:C}{v:Value}(h:fH w σ S β c v)(S':Store)(β':Hs):fH w σ S' β' (VU c) v:=by
 cases c with
 |d x=>exact h
 |bE es=>exact h.1
 |bL k es=>exact h.1
 |iX n es=>exact h.1
 |jY cs=>exact h
 |_=>trivial
theorem G7{x:V}{v:Value}(h:bT w σ S β x v)(S':Store)(β':Hs):bT w σ S' β' (Fw x) v:=by
 cases x with
 |c x=>exact⟨Mc h.1 _ _,h.2⟩
 |agg cs=>
  obtain⟨a,ha,hl,hc⟩:=h;refine⟨a,ha,by rw[List.length_map];exact hl,fun i x hx=> ?_⟩;rw[List.getElem?_map] at hx
  cases hi:cs[i]? with
  |none=>rw[hi] at hx;cases hx
  |some y=>
   rw[hi] at hx;cases hx;obtain⟨u,q1,q2,q3⟩:=hc i y hi;exact⟨u,q1,Mc q2 _ _,q3⟩
 |_=>trivial
theorem JD(hl:∀b,b<w.heap.size\/σ b=0)(hg:Ar w σ):dB w σ [] [] where
 qo:=hg
 obj:=fun k o h=>by rw[lV] at h;cases h
 apart:=fun k k' o o' h h' b h1=>by rw[lV] at h1;cases h1
 shape:=⟨rfl,fun l fr h=>by simp at h⟩
 live:=hl
theorem Fx{β:Hs}{b:Nat}:¬Own [] β b:=fun⟨k,o,h,h1,_⟩=>by rw[lV] at h1;cases h1
def af5(mk:List C->V)(m:Nat):Prop:=∀w σ S β cs v,cs.length=m->bT w σ S β (mk cs) v->∃vs,dS w σ S β cs vs/\∀w' σ' S' β' cs',cs'.length=m->dS w' σ' S' β' cs' vs->bT w' σ' S' β' (mk cs') v
def zA:Value:=mkT (.slice none 0 0) []
theorem Me(i o:Nat):kid zA i o=none:=by
 unfold zA;rw[K3 (fun i o u h=>by simp[kJ] at h)];simp[kJ]
theorem CG{b:Nat}:¬jZ zA b:=fun h=>by
 cases h with
 |here h1 h2=>cases h1
 |kid h1 h2=>rw[Me] at h1;cases h1
theorem G8(σ:Nat->Nat):∀n:Nat,∃m,∀b,b<n->σ b<=m
 |0=>⟨0,fun b h=>by omega⟩
 |n+1=>by
  obtain⟨m,hm⟩:=G8 σ n;refine⟨max m (σ n),fun b hb=> ?_⟩;by_cases e:b=n
  ·subst e;omega
  ·have:=hm b (by omega);omega
open Classical in
theorem bF.own{f:FuncId}{args:List V}{bD:List Obj}{Ω:Store}{mk:List C->V}{r:List D}(hm:af5 mk r.length)(hp:gW r=true)
 (h:∀n,aG P f (args.map Fw) (mk ((dL r n).map .d))):
 bF P f args (bD::Ω) (fun r' S'=>r'=mk (G6 (0,bD.length) 0 r)/\S'=(bD++[.xf (r.map JC)])::Ω):=by
 refine⟨(h 0 []).1,fun w σ β vs hS hargs=> ?_⟩;obtain⟨n,hn⟩:=G8 σ w.heap.size
 have JE:ni w σ [] [] (args.map Fw) vs:=by
  refine⟨by rw[List.length_map];exact hargs.1,fun j x hx=> ?_⟩;rw[List.getElem?_map] at hx
  cases ha:args[j]? with
  |none=>rw[ha] at hx;cases hx
  |some y=>
   rw[ha] at hx;cases hx;obtain⟨v,h1,h2⟩:=hargs.2 j y ha;exact⟨v,h1,G7 h2 _ _⟩
 refine((h n []).2 w σ [] vs (JD hS.live hS.qo) JE).mono fun e w' ⟨v,r',S',σ',β',he,hS',hk,hst,hv,hr',hS2⟩=> ?_;subst hr';subst hS2;obtain⟨us0,hcs,hback⟩:=hm w' σ' _ β' _ v (by rw[List.length_map,iB]) hv
 have aje:us0.length=r.length:=by rw[<-hcs.1,List.length_map,iB]
 obtain⟨us,vC⟩:=VT r n (fun j=>us0.getD j undef) hp (fun j d hd=>by
  obtain⟨u,h1,h2,_⟩:=hcs.2 j (.d d) (by rw[List.getElem?_map,hd];rfl);simp only[List.getD_eq_getElem?_getD,h1,Option.getD_some]
  exact h2)
 let h0:Value:=.tuple (us.map fun u=>u.getD zA).toArray
 have hroot:∀j,rT h0 j=(us[j]?).map fun u=>u.getD zA:=fun j=>by simp[h0,rT]
 have hfresh:∀b,zN h0 b->w.heap.size<=b:=by
  rintro b ⟨j,T,h1,h2⟩;rw[hroot] at h1
  cases hu:us[j]? with
  |none=>rw[hu] at h1;cases h1
  |some u=>
   rw[hu] at h1;simp only[Option.map_some,Option.some.injEq] at h1
   cases u with
   |none=>subst h1;exact absurd h2 CG
   |some u=>
    simp at h1;subst h1;obtain⟨c,t,fz,m,a1,a2,a3,a4⟩:=vC.own j u hu b h2;refine Nat.le_of_not_lt fun hlt=> ?_;have h1:=(hst.far b hlt Fx).2;have h2:=hn b hlt;omega
 let σ2:Nat->Nat:=fun b=>if zN h0 b then 0 else σ' b
 have hg:Grow w σ w' σ2:=⟨hst.size,hst.os,hst.output,fun b hb=>by
  obtain⟨h1,h2⟩:=hst.far b hb Fx
  exact⟨h1,(if_neg fun hx=>by have:=hfresh b hx;omega).trans h2⟩,fun b=>by
  rcases hS'.live b with hb|hb
  ·exact .inl hb
  ·right;show(if zN h0 b then 0 else σ' b)=0;rw[hb];split<;>rfl⟩
 cases β with
 |nil=>have:=hS.shape.1;simp at this
 |cons bo bΩ=>
 have hlen:bo.length=bD.length:=by
  obtain⟨gr,g1,g2⟩:=hS.shape.2 0 bD rfl;simp at g1;rw[g1];exact g2
 obtain⟨hS3,hk3,ab6⟩:=hS.push (o:=.xf (r.map JC)) (h:=h0) hg hlen (by
  refine⟨fun j es hj=> ?_,fun j T hT=> ?_,fun b hb=>if_pos hb,fun j j' T T' x hjj hT hT' hx hx'=> ?_⟩
  ·rw[List.getElem?_map] at hj
   cases hd:r[j]? with
   |none=>rw[hd] at hj;cases hj
   |some d=>
    rw[hd] at hj;simp only[Option.map_some,Option.some.injEq] at hj;subst hj;obtain⟨u,h1,h2⟩:=vC.cell j d hd;rw[hroot,h1]
    have hsc:(∀es,d≠ .sl es)->∃T,Option.map (fun u=>Option.getD u zA) (some u)=some T/\ny w' (JC d) T:=fun hne=>by
     have hu:u=none:=by cases d<;>first|exact absurd rfl (hne _)|exact h2.1
     have hr0:JC d=[]:=by cases d<;>first|exact absurd rfl (hne _)|rfl
     subst hu;rw[hr0];exact⟨zA,rfl,.nil none 0 _ rfl Me⟩
    cases d with
    |sl es=>obtain⟨T,rfl,_,_,h6⟩:=h2;exact⟨T,rfl,h6⟩
    |_=>exact hsc (fun es e=>by cases e)
  ·rw[List.length_map];rw[hroot] at hT
   cases hu:us[j]? with
   |none=>rw[hu] at hT;cases hT
   |some u=>rw[<-vC.len];exact(List.getElem?_eq_some_iff.1 hu).1
  ·rw[hroot] at hT hT'
   cases hu:us[j]? with
   |none=>rw[hu] at hT;cases hT
   |some u=>
    cases hu':us[j']? with
    |none=>rw[hu'] at hT';cases hT'
    |some u'=>
     rw[hu] at hT;rw[hu'] at hT';simp only[Option.map_some,Option.some.injEq] at hT hT'
     cases u with
     |none=>subst hT;exact CG hx
     |some u=>
      cases u' with
      |none=>subst hT';exact CG hx'
      |some u'=>simp at hT hT';subst hT;subst hT';exact vC.apart j j' u u' x hjj hu hu' hx hx') (fun b hb=>hfresh b hb)
 refine⟨v,_,_,σ2,(bo++[h0])::bΩ,he,hS3,hk3,ab6,?_,rfl,rfl⟩;refine hback _ _ _ _ _ (by rw[AQ]) ⟨by rw[AQ,aje],fun j x hx=> ?_⟩;rw[Tm,Nat.zero_add] at hx
 cases hd:r[j]? with
 |none=>rw[hd] at hx;cases hx
 |some d=>
  rw[hd] at hx;simp only[Option.map_some,Option.some.injEq] at hx;obtain⟨u,h1,h2⟩:=vC.cell j d hd
  have hjl:j<(dL r n).length:=by rw[iB];exact(List.getElem?_eq_some_iff.1 hd).1
  obtain⟨v0,h3,_,h4⟩:=hcs.2 j (.d (dL r n)[j]) (by rw[List.getElem?_map,List.getElem?_eq_getElem hjl];rfl)
  have hv0:us0.getD j undef=v0:=by rw[List.getD_eq_getElem?_getD,h3];rfl
  simp only[hv0] at h2;refine⟨v0,h3,?_,h4⟩
  have hsc:(∀es,d≠ .sl es)->fH w' σ2 ((bD++[.xf (r.map JC)])::Ω) ((bo++[h0])::bΩ) (.d d) v0:=fun hne=>by
   have:SD d v0:=by cases d<;>first|exact absurd rfl (hne _)|exact h2.2
   exact NT this
  cases d with
  |sl es=>
   subst hx;obtain⟨T,rfl,_,h5,_⟩:=h2;refine⟨_,bn _ _ _,fun rs _=>⟨h0,by rw[<-hlen,bn],?_⟩⟩;unfold EO;rw[hroot,h1];exact h5
  |_=>subst hx;exact hsc (fun es e=>by cases e)
end
section
variable {P:Program} {w w':World} {σ σ':Nat->Nat} {S:Store} {β:Hs}
mutual
theorem ajf{σ2:Nat->Nat}(hs:∀b c t fz,w.heap[b]? =some (.cells c t fz)->c.size<σ b->σ2 b=σ b):∀(d:D)(n:Nat)(v:Value),mI d=true->bS w σ (kC d n) v->bS w σ2 (kC d n) v
 | .sl es,n,v,hp,h=>by
   rw[kC] at h ⊢;have hrec:=ac9 hs es (n+1);generalize dU es (n+1)=q at h hrec ⊢
   cases h with
   |nP n a cap=>exact .nP n a cap
   |ol n b off cap z q vals c t hcap hlen hb hσ hfit hc hv hx=>exact .ol n b off cap z q vals c t hcap hlen hb ((hs b c t _ hb (by omega)).trans hσ) hfit hc (hrec vals (by simpa [mI] using hp) hv) hx
 | .ol m es,n,v,hp,h=>by simp[mI] at hp
 | .b x,n,v,hp,h=>by rw[kC] at h ⊢;cases h;constructor
 | .i k x,n,v,hp,h=>by rw[kC] at h ⊢;cases h;constructor
 | .s l,n,v,hp,h=>by rw[kC] at h ⊢;cases h;constructor
 | .o u,n,v,hp,h=>by simp[mI] at hp
theorem af8{σ2:Nat->Nat}(hs:∀b c t fz,w.heap[b]? =some (.cells c t fz)->c.size<σ b->σ2 b=σ b):∀(r:List D)(n:Nat)(vals:Nat->Value),gW r=true->(∀(j:Nat)(d:D),(dL r n)[j]? =some d->bS w σ d (vals j))->
 ∀(j:Nat)(d:D),(dL r n)[j]? =some d->bS w σ2 d (vals j)
 |[],n,vals,hp,h,j,d,hd=>by simp[dL] at hd
 |a::r,n,vals,hp,h,j,d,hd=>by
  rw[gW,Bool.and_eq_true] at hp;rw[dL] at h hd
  cases j with
  |zero=>
   simp at hd;subst hd;exact ajf hs a n _ hp.1 (h 0 _ rfl)
  |succ j=>exact af8 hs r (n+nU a) (fun i=>vals (i+1)) hp.2 (fun i d hi=>h (i+1) d hi) j d hd
theorem ac9{σ2:Nat->Nat}(hs:∀b c t fz,w.heap[b]? =some (.cells c t fz)->c.size<σ b->σ2 b=σ b):∀(rs:List (List D))(n:Nat)(vals:Nat->Value),iG rs=true->(∀(j:Nat)(d:D),(dU rs n).flatten[j]? =some d->bS w σ d (vals j))->
 ∀(j:Nat)(d:D),(dU rs n).flatten[j]? =some d->bS w σ2 d (vals j)
 |[],n,vals,hp,h,j,d,hd=>by simp[dU] at hd
 |r::rs,n,vals,hp,h,j,d,hd=>by
  rw[iG,Bool.and_eq_true] at hp;rw[dU,List.flatten_cons] at h hd;by_cases hj:j<(dL r n).length
  ·rw[List.getElem?_append_left hj] at hd;exact af8 hs r n vals hp.1 (fun j d hd=>h j d (by rw[List.getElem?_append_left (List.getElem?_eq_some_iff.1 hd).1];exact hd)) j d hd
  ·rw[List.getElem?_append_right (by omega)] at hd;have:=ac9 hs rs (n+pO r) (fun i=>vals ((dL r n).length+i)) hp.2 (fun j d hd=>h _ d (by rw[List.getElem?_append_right (by omega),Nat.add_sub_cancel_left];exact hd)) (j-(dL r n).length) d hd
   rwa [show(dL r n).length+(j-(dL r n).length)=j by omega] at this
end
theorem ny.data{es:List (List D)}{T v:Value}(h:ny w es T)(hv:hdr T=some v)(hσ:∀b c t fz,jZ T b->w.heap[b]? =some (.cells c t fz)->c.size<=σ b):bS w σ (.sl es) v:=by
 induction h generalizing v with
 |nil a cap T h hk=>rw[h] at hv;cases hv;exact .nil a cap
 |mk b off cap z es T c t vals kids hh hne hcap hlen hb hfit hc hs hk hx hself hap qm ih=>
  rw[hh] at hv;cases hv;have hpos:0<es.length:=List.length_pos_iff.2 hne;have hfl:=gq es z hlen
  have hidx:∀j,j<es.length*z->∃hi:j/z<es.length,j % z<z/\j/z*z+j % z=j:=fun j hj=>by
   have hz:0<z:=by rcases Nat.eq_zero_or_pos z with h|h;·rw[h] at hj;simp at hj
                   ·exact h
   exact⟨(Nat.div_lt_iff_lt_mul hz).2 hj,Nat.mod_lt _ hz,by rw[Nat.mul_comm];exact Nat.div_add_mod j z⟩
  have hcell:∀j d,es.flatten[j]? =some d->∃hi:j/z<es.length,cellAt es (j/z) (j % z)=some d/\j/z*z+j % z=j:=fun j d hd=>by
   have hj:j<es.length*z:=by rw[<-hfl];exact(List.getElem?_eq_some_iff.1 hd).1
   obtain⟨hi,hm,he⟩:=hidx j hj;refine⟨hi,?_,he⟩;have:=flat_get es z hlen (j/z) (j % z) hi hm;rw[he,hd] at this;unfold cellAt;rw[List.getElem?_eq_getElem hi];exact this.symm
  refine .sl b off cap z es (fun j=>vals (j/z) (j % z)) c t (0,0) hcap hlen hb (Nat.le_trans hfit (hσ b c t _ (.here hh hpos) hb)) (fun j hj=> ?_) (fun j d hd=> ?_)
  ·obtain⟨hi,hce,he⟩:=hcell j _ (List.getElem?_eq_getElem (by rw[hfl];exact hj));have:=hc _ _ _ hce
   rwa [he] at this
  ·obtain⟨hi,hce,he⟩:=hcell j d hd;rcases hs _ _ _ hce with⟨es',rfl⟩|hsd
   ·obtain⟨k1,k2⟩:=hk _ _ _ hce;exact ih _ _ _ hce k2 fun b' c' t' Oe ho hb'=>hσ b' c' t' Oe (.kid k1 ho) hb'
   ·exact NT hsd
end
section
variable {P:Program} {w w':World} {σ σ':Nat->Nat} {S:Store} {β:Hs}
end
def af9(n:Nat)(out:List UInt8):List UInt8:=if h:n=0 then out else af9 (n/10) (UInt8.ofNat (48+n % 10)::out)
termination_by n
decreasing_by omega
def ahQ(k:Int):List UInt8:=if k<=0 then [109,48] else 109::af9 k.toNat []
mutual
def JF:D->Nat
 | .sl es=>CJ es
 | .b _=>1
 | .i _ _=>1
 | .s _=>1
 | .o _=>0
 | .ol _ _=>0
def Tn:List D->Nat
 |[]=>0
 |d::ds=>JF d+Tn ds
def CJ:List (List D)->Nat
 |[]=>0
 |r::rs=>Tn r+CJ rs
end
mutual
def mkD:D->Int->D
 | .sl es,k=>.sl (VW es k)
 | .b _,k=>.b (decide (k.tmod 3=0))
 | .i kd _,k=>.i kd k
 | .s _,k=>.s (ahQ k)
 | .o v,_=>.o v
 | .ol n es,_=>.ol n es
def mkR:List D->Int->List D
 |[],_=>[]
 |d::ds,k=>mkD d k::mkR ds (k+JF d)
def VW:List (List D)->Int->List (List D)
 |[],_=>[]
 |r::rs,k=>mkR r k::VW rs (k+Tn r)
end
mutual
def tY:D->Bool
 | .sl es=>jy es
 | .b _=>true
 | .i _ _=>true
 | .s _=>true
 | .o _=>true
 | .ol _ _=>true
def iZ:List D->Bool
 |[]=>true
 |d::ds=>tY d&&iZ ds
def jy:List (List D)->Bool
 |[]=>true
 |r::rs=>decide (r.length<=32)&&iZ r&&jy rs
end
mutual
theorem ahR:∀d:D,tY d=true->JF d<=32*d.sz+1
 | .sl es,h=>by
   have:=YW es (by simpa [tY] using h);simp only[JF,D.sz];omega
 | .b _,_=>by simp[JF]
 | .i _ _,_=>by simp[JF]
 | .s _,_=>by simp[JF]
 | .o _,_=>by simp[JF]
 | .ol _ _,_=>by simp[JF]
theorem YX:∀r:List D,iZ r=true->Tn r<=32*bG r+r.length
 |[],_=>by simp[Tn]
 |d::ds,h=>by
  rw[iZ,Bool.and_eq_true] at h;have h1:=ahR d h.1;have h2:=YX ds h.2;simp only[Tn,bG,List.length_cons];omega
theorem YW:∀rs:List (List D),jy rs=true->CJ rs<=32*(rs.length+bA rs)
 |[],_=>by simp[CJ]
 |r::rs,h=>by
  rw[jy,Bool.and_eq_true,Bool.and_eq_true,decide_eq_true_eq] at h;have h1:=YX r h.1.2;have h2:=YW rs h.2;simp only[CJ,bA,List.length_cons];omega
end
theorem fV:∀a b,iZ (a++b)=(iZ a&&iZ b)
 |[],b=>by simp[iZ]
 |d::ds,b=>by rw[List.cons_append,iZ,iZ,fV ds b,Bool.and_assoc]
theorem jM{α:Type}{f:α->List D}:∀{xs:List α},(∀x∈xs,iZ (f x)=true/\(f x).length<=32)->jy (xs.map f)=true
 |[],_=>rfl
 |x::xs,h=>by
  rw[List.map_cons,jy,(h x (by simp)).1,jM fun y hy=>h y (by simp[hy]),decide_eq_true (h x (by simp)).2];rfl
abbrev aj9(P:Program)(f:FuncId)(es:List (List D)):Prop:=∀(k:Int)(l j r:Nat)(p:List (Nat×Nat))(S:Store)(rs:List (List (List D))),aN S (l,j)=some (.xf rs)->atR rs r p=some es->0<=k/\k+CJ es<=4611686018427387904->
 bF P f [.c (.xp (l,j) r p),.c (.d (.i .i64 k))] S (fun res S'=>res=.c (.d (.i .i64 (k+CJ es)))/\S'=aR S (l,j) (.xf (Dv rs r p (VW es k))))
abbrev akb(P:Program)(f:FuncId)(es:List (List D)):Prop:=∀(k:Int)(l j r:Nat)(p:List (Nat×Nat))(S:Store)(rs:List (List (List D))),aN S (l,j)=some (.xf rs)->atR rs r p=some (VW es k)->0<=k/\k+CJ es<=4611686018427387904->
 bF P f [.c (.xp (l,j) r p),.c (.d (.i .i64 k))] S (fun res S'=>res=.c (.d (.i .i64 (k+CJ es)))/\S'=S)
section
variable {P:Program} {N:Nat} {c:Code} {Q:Exit->St->Prop} {s:St} {S:Store} {l j r n:Nat} {p:List (Nat×Nat)} {rs:List (List (List D))} {rows:List (List D)} {k:Int}
abbrev akc(l j r:Nat)(p:List (Nat×Nat))(k:Int)(i:Nat):List V:=[.c (.xp (1+l,j) r p),.c (.d (.i .i64 k)),.c (.d (.i .i64 i))]
end
theorem P6:∀row:List D,(row.map C.d).mapM HY=some row
 |[]=>rfl
 |d::row=>by
  have:=P6 row;rw[List.map_cons,List.mapM_cons,this];rfl
theorem tZ(xs:List (List UInt8)):iG (xs.map encS)=true:=jL fun _ _=>rfl
theorem uf(xs:List (List UInt8)):jy (xs.map encS)=true:=jM fun _ _=>⟨rfl,by simp[encS]⟩
theorem G9:∀(xs:List (List UInt8))(n:Nat),dU (xs.map encS) n=xs.map encS
 |[],_=>rfl
 |x::xs,n=>by rw[List.map_cons,dU,G9 xs];rfl
mutual
theorem ak.eU:∀x:ak,gW x.enc=true/\iZ x.enc=true
 | .mk a0 a1 a2=>by simp only[ak.enc,gW,mI,iZ,tY,fU,fV,Bool.and_true,Bool.true_and,Bool.and_self,and_self,and_true,true_and,(ak.mY a2).1,(ak.mY a2).2]
theorem ak.mY:∀xs:List ak,iG (ak.encs xs)=true/\jy (ak.encs xs)=true
 |[]=>⟨rfl,rfl⟩
 |x::xs=>by
  have h:decide ((ak.enc x).length<=32)=true:=by rw[ak.bK];rfl
  simp only[ak.encs,iG,jy,h,(ak.eU x).1,(ak.eU x).2,(ak.mY xs).1,(ak.mY xs).2,Bool.and_self,and_self]
end
theorem ak.gK(xs:List ak):iG (xs.map ak.enc)=true/\jy (xs.map ak.enc)=true:=by rw[<-ak.iT];exact ak.mY xs
theorem dw.eU(x:dw):gW x.enc=true/\iZ x.enc=true:=by
 rw[dw.aB];simp only[List.cons_append,List.nil_append,gW,mI,iZ,tY,fU,fV,Bool.and_true,Bool.true_and,Bool.and_self,and_self,and_true,true_and,(ak.eU x.fType).1,(ak.eU x.fType).2]
theorem dw.gK(xs:List dw):iG (xs.map dw.enc)=true/\jy (xs.map dw.enc)=true:=⟨jL fun x _=>x.eU.1,jM fun x _=>⟨x.eU.2,by rw[dw.bK];decide⟩⟩
theorem aS.eU(x:aS):gW x.enc=true/\iZ x.enc=true:=by
 rw[aS.aB];simp only[List.cons_append,List.nil_append,gW,mI,iZ,tY,fU,fV,Bool.and_true,Bool.true_and,Bool.and_self,and_self,and_true,true_and,(ak.eU x.fType).1,(ak.eU x.fType).2]
theorem aS.gK(xs:List aS):iG (xs.map aS.enc)=true/\jy (xs.map aS.enc)=true:=⟨jL fun x _=>x.eU.1,jM fun x _=>⟨x.eU.2,by rw[aS.bK];decide⟩⟩
mutual
theorem au.eU:∀x:au,gW x.enc=true/\iZ x.enc=true
 | .mk a0 a1 a2 a3 a4 a5 a6=>by simp only[au.enc,gW,mI,iZ,tY,fU,fV,Bool.and_true,Bool.true_and,Bool.and_self,and_self,and_true,true_and,(ak.eU a4).1,(ak.eU a4).2,(au.mY a5).1,(au.mY a5).2,(aJ.mY a6).1,(aJ.mY a6).2]
theorem au.mY:∀xs:List au,iG (au.encs xs)=true/\jy (au.encs xs)=true
 |[]=>⟨rfl,rfl⟩
 |x::xs=>by
  have h:decide ((au.enc x).length<=32)=true:=by rw[au.bK];rfl
  simp only[au.encs,iG,jy,h,(au.eU x).1,(au.eU x).2,(au.mY xs).1,(au.mY xs).2,Bool.and_self,and_self]
theorem aJ.eU:∀x:aJ,gW x.enc=true/\iZ x.enc=true
 | .mk a0 a1 a2=>by simp only[aJ.enc,gW,mI,iZ,tY,fU,fV,Bool.and_true,Bool.true_and,Bool.and_self,and_self,and_true,true_and,tZ a1,uf a1,(au.eU a2).1,(au.eU a2).2]
theorem aJ.mY:∀xs:List aJ,iG (aJ.encs xs)=true/\jy (aJ.encs xs)=true
 |[]=>⟨rfl,rfl⟩
 |x::xs=>by
  have h:decide ((aJ.enc x).length<=32)=true:=by rw[aJ.bK];rfl
  simp only[aJ.encs,iG,jy,h,(aJ.eU x).1,(aJ.eU x).2,(aJ.mY xs).1,(aJ.mY xs).2,Bool.and_self,and_self]
end
theorem au.gK(xs:List au):iG (xs.map au.enc)=true/\jy (xs.map au.enc)=true:=by rw[<-au.iT];exact au.mY xs
theorem aJ.gK(xs:List aJ):iG (xs.map aJ.enc)=true/\jy (xs.map aJ.enc)=true:=by rw[<-aJ.iT];exact aJ.mY xs
mutual
theorem ah.eU:∀x:ah,gW x.enc=true/\iZ x.enc=true
 | .mk a0 a1=>by simp only[ah.enc,gW,mI,iZ,tY,fU,fV,Bool.and_true,Bool.true_and,Bool.and_self,and_self,and_true,true_and,(ah.mY a1).1,(ah.mY a1).2]
theorem ah.mY:∀xs:List ah,iG (ah.encs xs)=true/\jy (ah.encs xs)=true
 |[]=>⟨rfl,rfl⟩
 |x::xs=>by
  have h:decide ((ah.enc x).length<=32)=true:=by rw[ah.bK];rfl
  simp only[ah.encs,iG,jy,h,(ah.eU x).1,(ah.eU x).2,(ah.mY xs).1,(ah.mY xs).2,Bool.and_self,and_self]
end
theorem ah.gK(xs:List ah):iG (xs.map ah.enc)=true/\jy (xs.map ah.enc)=true:=by rw[<-ah.iT];exact ah.mY xs
theorem bN.eU(x:bN):gW x.enc=true/\iZ x.enc=true:=by
 rw[bN.aB];simp only[List.cons_append,List.nil_append,gW,mI,iZ,tY,fU,fV,Bool.and_true,Bool.true_and,Bool.and_self,and_self,and_true,true_and,(ak.gK x.aV).1,(ak.gK x.aV).2,(ak.eU x.bR).1,(ak.eU x.bR).2,tZ x.aW,uf x.aW,(au.eU x.fBody).1,(au.eU x.fBody).2]
theorem bN.gK(xs:List bN):iG (xs.map bN.enc)=true/\jy (xs.map bN.enc)=true:=⟨jL fun x _=>x.eU.1,jM fun x _=>⟨x.eU.2,by rw[bN.bK];decide⟩⟩
theorem eG.eU(x:eG):gW x.enc=true/\iZ x.enc=true:=by
 rw[eG.aB];simp only[List.cons_append,List.nil_append,gW,mI,iZ,tY,fU,fV,Bool.and_true,Bool.true_and,Bool.and_self,and_self,and_true,true_and,tZ x.jv,uf x.jv,(bN.gK x.j4).1,(bN.gK x.j4).2]
theorem eG.gK(xs:List eG):iG (xs.map eG.enc)=true/\jy (xs.map eG.enc)=true:=⟨jL fun x _=>x.eU.1,jM fun x _=>⟨x.eU.2,by rw[eG.bK];decide⟩⟩
theorem bH.eU(x:bH):gW x.enc=true/\iZ x.enc=true:=by
 rw[bH.aB];simp only[List.cons_append,List.nil_append,gW,mI,iZ,tY,fU,fV,Bool.and_true,Bool.true_and,Bool.and_self,and_self,and_true,true_and,(ak.gK x.oz).1,(ak.gK x.oz).2]
theorem bH.gK(xs:List bH):iG (xs.map bH.enc)=true/\jy (xs.map bH.enc)=true:=⟨jL fun x _=>x.eU.1,jM fun x _=>⟨x.eU.2,by rw[bH.bK];decide⟩⟩
theorem cB.eU(x:cB):gW x.enc=true/\iZ x.enc=true:=by
 rw[cB.aB];simp only[List.cons_append,List.nil_append,gW,mI,iZ,tY,fU,fV,Bool.and_true,Bool.true_and,Bool.and_self,and_self,and_true,true_and,tZ x.aW,uf x.aW,(bH.gK x.jE).1,(bH.gK x.jE).2]
theorem cB.gK(xs:List cB):iG (xs.map cB.enc)=true/\jy (xs.map cB.enc)=true:=⟨jL fun x _=>x.eU.1,jM fun x _=>⟨x.eU.2,by rw[cB.bK];decide⟩⟩
theorem dA.eU(x:dA):gW x.enc=true/\iZ x.enc=true:=by
 rw[dA.aB];simp only[List.cons_append,List.nil_append,gW,mI,iZ,tY,fU,fV,Bool.and_true,Bool.true_and,Bool.and_self,and_self,and_true,true_and,tZ x.aW,uf x.aW,(au.eU x.fBody).1,(au.eU x.fBody).2]
theorem dA.gK(xs:List dA):iG (xs.map dA.enc)=true/\jy (xs.map dA.enc)=true:=⟨jL fun x _=>x.eU.1,jM fun x _=>⟨x.eU.2,by rw[dA.bK];decide⟩⟩
theorem cK.eU(x:cK):gW x.enc=true/\iZ x.enc=true:=by
 rw[cK.aB];simp only[List.cons_append,List.nil_append,gW,mI,iZ,tY,fU,fV,Bool.and_true,Bool.true_and,Bool.and_self,and_self,and_true,true_and,tZ x.aW,uf x.aW,(ak.eU x.uU).1,(ak.eU x.uU).2,(aS.gK x.dQ).1,(aS.gK x.dQ).2,(ak.eU x.kM).1,(ak.eU x.kM).2,(dA.gK x.nR).1,(dA.gK x.nR).2]
theorem cK.gK(xs:List cK):iG (xs.map cK.enc)=true/\jy (xs.map cK.enc)=true:=⟨jL fun x _=>x.eU.1,jM fun x _=>⟨x.eU.2,by rw[cK.bK];decide⟩⟩
theorem bq.eU(x:bq):gW x.enc=true/\iZ x.enc=true:=by
 rw[bq.aB];simp only[List.cons_append,List.nil_append,gW,mI,iZ,tY,fU,fV,Bool.and_true,Bool.true_and,Bool.and_self,and_self,and_true,true_and,(ak.eU x.fType).1,(ak.eU x.fType).2]
theorem bq.gK(xs:List bq):iG (xs.map bq.enc)=true/\jy (xs.map bq.enc)=true:=⟨jL fun x _=>x.eU.1,jM fun x _=>⟨x.eU.2,by rw[bq.bK];decide⟩⟩
theorem aO.eU(x:aO):gW x.enc=true/\iZ x.enc=true:=by
 rw[aO.aB];simp only[List.cons_append,List.nil_append,gW,mI,iZ,tY,fU,fV,Bool.and_true,Bool.true_and,Bool.and_self,and_self,and_true,true_and,tZ x.aW,uf x.aW,(aS.gK x.dQ).1,(aS.gK x.dQ).2,(bq.gK x.aV).1,(bq.gK x.aV).2,(ak.eU x.bR).1,(ak.eU x.bR).2,(au.eU x.fBody).1,(au.eU x.fBody).2]
theorem aO.gK(xs:List aO):iG (xs.map aO.enc)=true/\jy (xs.map aO.enc)=true:=⟨jL fun x _=>x.eU.1,jM fun x _=>⟨x.eU.2,by rw[aO.bK];decide⟩⟩
theorem dK.eU(x:dK):gW x.enc=true/\iZ x.enc=true:=by
 rw[dK.aB];simp only[List.cons_append,List.nil_append,gW,mI,iZ,tY,fU,fV,Bool.and_true,Bool.true_and,Bool.and_self,and_self,and_true,true_and,tZ x.zW,uf x.zW,(eG.gK x.tH).1,(eG.gK x.tH).2,(cB.gK x.nD).1,(cB.gK x.nD).2,(cK.gK x.nE).1,(cK.gK x.nE).2,(aO.gK x.nG).1,(aO.gK x.nG).2]
theorem dK.gK(xs:List dK):iG (xs.map dK.enc)=true/\jy (xs.map dK.enc)=true:=⟨jL fun x _=>x.eU.1,jM fun x _=>⟨x.eU.2,by rw[dK.bK];decide⟩⟩
theorem eF.eU(x:eF):gW x.enc=true/\iZ x.enc=true:=by
 rw[eF.aB];simp only[List.cons_append,List.nil_append,gW,mI,iZ,tY,fU,fV,Bool.and_true,Bool.true_and,Bool.and_self,and_self,and_true,true_and,(dK.gK x.oQ).1,(dK.gK x.oQ).2]
theorem eF.gK(xs:List eF):iG (xs.map eF.enc)=true/\jy (xs.map eF.enc)=true:=⟨jL fun x _=>x.eU.1,jM fun x _=>⟨x.eU.2,by rw[eF.bK];decide⟩⟩
theorem cu.eU(x:cu):gW x.enc=true/\iZ x.enc=true:=by
 rw[cu.aB];simp only[List.cons_append,List.nil_append,gW,mI,iZ,tY,fU,fV,Bool.and_true,Bool.true_and,Bool.and_self,and_self,and_true,true_and]
theorem cu.gK(xs:List cu):iG (xs.map cu.enc)=true/\jy (xs.map cu.enc)=true:=⟨jL fun x _=>x.eU.1,jM fun x _=>⟨x.eU.2,by rw[cu.bK];decide⟩⟩
theorem YZ(b:UInt8):decide (firstIdx ⟨[39,45,43,42,60,61,46].toArray⟩ b>=0)=decide (b∈([39,45,43,42,60,61,46]:List UInt8)):=by
 have h:∀n:Nat,n<256->decide (firstIdx ⟨[39,45,43,42,60,61,46].toArray⟩ (UInt8.ofNat n)>=0)=decide (UInt8.ofNat n∈([39,45,43,42,60,61,46]:List UInt8)):=by decide +kernel
 have h1:=h b.toNat (UInt8.toNat_lt b)
 rwa [UInt8.ofNat_toNat] at h1
theorem ab7(b:UInt8):b∈([39,45,43,42,60,61,46]:List UInt8)<->(b.toNat=39\/b.toNat=45\/b.toNat=43\/b.toNat=42\/b.toNat=60\/b.toNat=61\/b.toNat=46):=by
 have h:∀n:Nat,n<256->(UInt8.ofNat n∈([39,45,43,42,60,61,46]:List UInt8)<->(n=39\/n=45\/n=43\/n=42\/n=60\/n=61\/n=46)):=by decide +kernel
 have h1:=h b.toNat (UInt8.toNat_lt b)
 rwa [UInt8.ofNat_toNat] at h1
theorem qX(b:UInt8):jg b=true<->(97<=b.toNat/\b.toNat<=122)\/(48<=b.toNat/\b.toNat<=57)\/b.toNat=39\/b.toNat=45\/b.toNat=43\/b.toNat=42\/b.toNat=60\/b.toNat=61\/b.toNat=46:=by
 unfold jg;rw[Bool.or_eq_true,Bool.or_eq_true,decide_eq_true_eq,decide_eq_true_eq,decide_eq_true_eq,ab7,or_assoc]
theorem all_false{s:List UInt8}{i:Nat}(hi:i<s.length)(h:jg s[i]=false):s.all jg=false:=by
 rw[List.all_eq_false];exact⟨s[i],List.getElem_mem hi,by simp[h]⟩
theorem all_true{s:List UInt8}(h:∀j (hj:j<s.length),jg s[j]=true):s.all jg=true:=by
 rw[List.all_eq_true];intro b hb;obtain⟨j,hj,e⟩:=List.getElem_of_mem hb;rw[<-e];exact h j hj
theorem yL{x:ah}{i:Nat}(hi:i<x.aj.length)(h:x.sz<=67108864):x.aj[i].sz<=67108864/\x.aj.length<=67108864/\x.aM.length<=67108864:=by
 have:=jq (List.getElem_mem hi);rw[gM,jf] at h;omega
theorem Bu{x:ah}(h:x.sz<=67108864):x.aj.length<=67108864/\x.aM.length<=67108864:=by
 rw[gM,jf] at h;omega
theorem R7{l:List ah}{i:Nat}(hi:i<l.length):iK (l.drop i)=(iO l[i]&&iK (l.drop (i+1))):=by rw[List.drop_eq_getElem_cons hi,iK]
theorem Eo{l:List ah}{i:Nat}(hi:i<l.length):mO (l.drop i)=max (ku l[i]) (mO (l.drop (i+1))):=by rw[List.drop_eq_getElem_cons hi,mO]
theorem Gl{l:List ah}{i:Nat}(hi:i<l.length):lJ (l.drop i)=jG l[i]+lJ (l.drop (i+1)):=by rw[List.drop_eq_getElem_cons hi,lJ]
theorem He{x:ah}(h:x.sz<=67108864):jG x<=67108865:=by have:=PY x;omega
theorem ah.JG{x:ah}{i:Nat}(hi:i<x.aj.length):SizeOf.sizeOf x.aj[i]<SizeOf.sizeOf x:=by
 have:=List.sizeOf_lt_of_mem (List.getElem_mem hi);have:=ah.ow x;omega
theorem JH(l:List UInt8)(b:UInt8):aG prog 235 [.c (.d (.s l)),.c (.d (.i .u8 b.toNat))] (.c (.d (.i .i64 (firstIdx ⟨l.toArray⟩ b)))):=fun S=>by
 refine zcx [.tmp 4] func235 ntmps235 ?_;simp -implicitDefEqProofs (disch:=omega) only[go_sem];refine ay (Eh l b) ?_;simp -implicitDefEqProofs (disch:=omega) only[go_sem]<;>(repeat(with_reducible refine And.intro ?_ ?_;focus first|omega|rfl|assumption|exact⟨_,rfl,rfl⟩|(simp;omega)|(simp;done)))
theorem Nb(b:UInt8):aG prog 223 [.c (.d (.i .u8 b.toNat))] (.c (.d (.b (jg b)))):=fun S=>by
 refine zcx [.tmp 2] func223 ntmps223 ?_;simp -implicitDefEqProofs (disch:=omega) only[go_sem];refine ay (Jh b) ?_;simp -implicitDefEqProofs (disch:=omega) only[go_sem]<;>(repeat(with_reducible refine And.intro ?_ ?_;focus first|omega|rfl|assumption|exact⟨_,rfl,rfl⟩|(simp;omega)|(simp;done)))
 with_reducible refine aA (fun hb=> ?_) (fun hb=> ?_)<;>have h:=hb<;>(try simp only[wf_preprocess] at h)<;>simp -implicitDefEqProofs (disch:=omega) only[go_sem,hb]<;>(repeat(with_reducible refine And.intro ?_ ?_;focus first|omega|rfl|assumption|exact⟨_,rfl,rfl⟩|(simp;omega)|(simp;done)))
 ·exact aQ ((qX b).2 (.inl h)).symm
 have h1:=h;refine ay (Ji b) ?_;simp -implicitDefEqProofs (disch:=omega) only[go_sem]<;>(repeat(with_reducible refine And.intro ?_ ?_;focus first|omega|rfl|assumption|exact⟨_,rfl,rfl⟩|(simp;omega)|(simp;done)))
 with_reducible refine aA (fun hb=> ?_) (fun hb=> ?_)<;>have h:=hb<;>(try simp only[wf_preprocess] at h)<;>simp -implicitDefEqProofs (disch:=omega) only[go_sem,hb]<;>(repeat(with_reducible refine And.intro ?_ ?_;focus first|omega|rfl|assumption|exact⟨_,rfl,rfl⟩|(simp;omega)|(simp;done)))
 ·exact aQ ((qX b).2 (.inr (.inl h))).symm
 have h2:=h;refine ay (JH [39,45,43,42,60,61,46] b) ?_;simp -implicitDefEqProofs (disch:=omega) only[go_sem]<;>(repeat(with_reducible refine And.intro ?_ ?_;focus first|omega|rfl|assumption|exact⟨_,rfl,rfl⟩|(simp;omega)|(simp;done)));refine aQ ?_;rw[YZ];unfold jg;unfold lowerB at h1;unfold nJ at h2;simp[h1,h2]
theorem VX(s:List UInt8)(hs:s.length<=1073741824):aG prog 195 [.c (.d (.s s))] (.c (.d (.b (validAtom s)))):=fun S=>by
 refine zcx [.tmp 2] func195 ntmps195 ?_;simp -implicitDefEqProofs (disch:=omega) only[go_sem]
 refine bC (ι:=Nat) zmx rfl [0,5,6] (fun i=>[.c (.d (.s s)),.c (.d (.i .i64 s.length)),.c (.d (.i .i64 i))]) (fun _=>[]::S)
  (fun i=>i<=s.length/\∀j,∀hj:j<s.length,j<i->jg s[j]=true) (fun i=>s.length-i) 0 rfl rfl ⟨Nat.zero_le _,fun j _ h=>by omega⟩ ?_
 rintro i ⟨p1,p2⟩;simp -implicitDefEqProofs (disch:=omega) only[go_sem]
 with_reducible refine aA (fun hb=> ?_) (fun hb=> ?_)<;>have h:=hb<;>(try simp only[wf_preprocess] at h)<;>simp -implicitDefEqProofs (disch:=omega) only[go_sem,hb]<;>(repeat(with_reducible refine And.intro ?_ ?_;focus first|omega|rfl|assumption|exact⟨_,rfl,rfl⟩|(simp;omega)|(simp;done)))
 ·have hi:i<s.length:=by omega
  have e:s.getD i 0=s[i]:=by simp[List.getD,hi]
  (repeat(with_reducible refine And.intro ?_ ?_;focus first|omega|rfl|assumption|exact⟨_,rfl,rfl⟩|(simp;omega)|(simp;done)))
  rw[e];refine ay (Nb s[i]) ?_;simp -implicitDefEqProofs (disch:=omega) only[go_sem]<;>(repeat(with_reducible refine And.intro ?_ ?_;focus first|omega|rfl|assumption|exact⟨_,rfl,rfl⟩|(simp;omega)|(simp;done)))
  with_reducible refine aA (fun hb=> ?_) (fun hb=> ?_)<;>have h:=hb<;>(try simp only[wf_preprocess] at h)<;>simp -implicitDefEqProofs (disch:=omega) only[go_sem,hb]<;>(repeat(with_reducible refine And.intro ?_ ?_;focus first|omega|rfl|assumption|exact⟨_,rfl,rfl⟩|(simp;omega)|(simp;done)))
  ·exact aQ (by unfold validAtom;rw[all_false hi h];rfl)
  ·refine cO (i+1) (by omega) rfl rfl ⟨by omega,fun j hj hji=> ?_⟩;by_cases e':j=i
   ·subst e';exact h
   ·exact p2 j hj (by omega)
 ·have ha:=all_true (s:=s) (fun j hj=>p2 j hj (by omega))
  with_reducible refine aA (fun hb=> ?_) (fun hb=> ?_)<;>have h:=hb<;>(try simp only[wf_preprocess] at h)<;>simp -implicitDefEqProofs (disch:=omega) only[go_sem,hb]<;>(repeat(with_reducible refine And.intro ?_ ?_;focus first|omega|rfl|assumption|exact⟨_,rfl,rfl⟩|(simp;omega)|(simp;done)))
  ·refine aQ ?_;unfold validAtom;rw[ha,Bool.true_and];exact decide_eq_decide.2 (by omega)
  ·refine aQ ?_;unfold validAtom;rw[ha,Bool.true_and];exact(decide_eq_false (by omega)).symm
theorem Y0(b:UInt8):aG prog 214 [.c (.d (.i .u8 b.toNat))] (.c (.d (.b (jg b)))):=fun S=>by
 have yes:((97<=b.toNat/\b.toNat<=122)\/(48<=b.toNat/\b.toNat<=57)\/b.toNat=39\/b.toNat=45\/b.toNat=43\/b.toNat=42\/b.toNat=60\/b.toNat=61\/b.toNat=46)->jg b=true:=(qX b).2
 have no:¬((97<=b.toNat/\b.toNat<=122)\/(48<=b.toNat/\b.toNat<=57)\/b.toNat=39\/b.toNat=45\/b.toNat=43\/b.toNat=42\/b.toNat=60\/b.toNat=61\/b.toNat=46)->jg b=false:=fun h=>by
  cases hb:jg b with
  |false=>rfl
  |true=>exact absurd ((qX b).1 hb) h
 refine zcx [.tmp 2] func214 ntmps214 ?_;simp -implicitDefEqProofs (disch:=omega) only[go_sem]
 repeat' (first|(with_reducible refine aA (fun hb=> ?_) (fun hb=> ?_)<;>have h:=hb<;>(try simp only[wf_preprocess] at h)<;>simp -implicitDefEqProofs (disch:=omega) only[go_sem,hb]<;>(repeat(with_reducible refine And.intro ?_ ?_;focus first|omega|rfl|assumption|exact⟨_,rfl,rfl⟩|(simp;omega)|(simp;done)))))
 all_goals first
  |exact aQ (yes (by omega)).symm
  |exact aQ (no (by omega)).symm
  |(refine aQ ?_;cases hb:jg b<;>simp only[decide_eq_true_eq,decide_eq_false_iff_not]<;>(first|(have:=(qX b).1 hb;omega)|(intro q;have:=yes (by omega);rw[hb] at this;cases this)))
theorem VY(s:List UInt8)(hs:s.length<=1073741824):aG prog 188 [.c (.d (.s s))] (.c (.d (.b (validAtom s)))):=fun S=>by
 refine zcx [.tmp 2] func188 ntmps188 ?_;simp -implicitDefEqProofs (disch:=omega) only[go_sem]
 refine bC (ι:=Nat) zmx rfl [0,3] (fun i=>[.c (.d (.s s)),.c (.d (.i .i64 i))]) (fun _=>[]::S)
  (fun i=>i<=s.length/\∀j,∀hj:j<s.length,j<i->jg s[j]=true) (fun i=>s.length-i) 0 rfl rfl ⟨Nat.zero_le _,fun j _ h=>by omega⟩ ?_
 rintro i ⟨p1,p2⟩;simp -implicitDefEqProofs (disch:=omega) only[go_sem]
 with_reducible refine aA (fun hb=> ?_) (fun hb=> ?_)<;>have h:=hb<;>(try simp only[wf_preprocess] at h)<;>simp -implicitDefEqProofs (disch:=omega) only[go_sem,hb]<;>(repeat(with_reducible refine And.intro ?_ ?_;focus first|omega|rfl|assumption|exact⟨_,rfl,rfl⟩|(simp;omega)|(simp;done)))
 ·have hi:i<s.length:=by omega
  have e:s.getD i 0=s[i]:=by simp[List.getD,hi]
  (repeat(with_reducible refine And.intro ?_ ?_;focus first|omega|rfl|assumption|exact⟨_,rfl,rfl⟩|(simp;omega)|(simp;done)))
  rw[e];refine ay (Y0 s[i]) ?_;simp -implicitDefEqProofs (disch:=omega) only[go_sem]<;>(repeat(with_reducible refine And.intro ?_ ?_;focus first|omega|rfl|assumption|exact⟨_,rfl,rfl⟩|(simp;omega)|(simp;done)))
  with_reducible refine aA (fun hb=> ?_) (fun hb=> ?_)<;>have h:=hb<;>(try simp only[wf_preprocess] at h)<;>simp -implicitDefEqProofs (disch:=omega) only[go_sem,hb]<;>(repeat(with_reducible refine And.intro ?_ ?_;focus first|omega|rfl|assumption|exact⟨_,rfl,rfl⟩|(simp;omega)|(simp;done)))
  ·exact aQ (by unfold validAtom;rw[all_false hi h];rfl)
  ·refine cO (i+1) (by omega) rfl rfl ⟨by omega,fun j hj hji=> ?_⟩;by_cases e':j=i
   ·subst e';exact h
   ·exact p2 j hj (by omega)
 ·have ha:=all_true (s:=s) (fun j hj=>p2 j hj (by omega));refine ay (Bq s.length 1 12) ?_;simp -implicitDefEqProofs (disch:=omega) only[go_sem]<;>(repeat(with_reducible refine And.intro ?_ ?_;focus first|omega|rfl|assumption|exact⟨_,rfl,rfl⟩|(simp;omega)|(simp;done)));refine aQ ?_;unfold validAtom;rw[ha,Bool.true_and,<-kX];exact decide_eq_decide.2 (by omega)
theorem Ep:∀n:Nat,(∀x:ah,SizeOf.sizeOf x<n->x.sz<=67108864->aG prog 163 [x.v] (.c (.d (.b (iO x)))))/\
 (∀xs:List ah,SizeOf.sizeOf xs<n->xs.length<=67108864->(∀t∈xs,t.sz<=67108864)->aG prog 196 [.c (.d (.sl (xs.map ah.enc))),.c (.fn 197 [])] (.c (.d (.b (!iK xs)))))
 |0=>⟨fun x h=>by omega,fun x h=>by omega⟩
 |n+1=>by
  obtain⟨ih,mF⟩:=Ep n;refine⟨fun x hn hsz S=> ?_,fun xs hn hlen hsz S=> ?_⟩
  ·have jl:=ah.ow x;have hts:=Bu hsz
   have hall:∀t∈x.aj,t.sz<=67108864:=fun t ht=>by
    obtain⟨i,hi,e⟩:=List.getElem_of_mem ht;rw[<-e];exact(yL hi hsz).1
   have tail:=mF x.aj (by omega) hts.1 hall;have hf:=zx x;refine zcx [.tmp 2] func163 ntmps163 ?_;simp -implicitDefEqProofs (disch:=omega) only[go_sem]
   with_reducible refine aA (fun hb=> ?_) (fun hb=> ?_)<;>have h:=hb<;>(try simp only[wf_preprocess] at h)<;>simp -implicitDefEqProofs (disch:=omega) only[go_sem,hb]<;>(repeat(with_reducible refine And.intro ?_ ?_;focus first|omega|rfl|assumption|exact⟨_,rfl,rfl⟩|(simp;omega)|(simp;done)))
   ·rw[if_neg h] at hf;refine ay (VX x.aM (by omega)) ?_;simp -implicitDefEqProofs (disch:=omega) only[go_sem]<;>(repeat(with_reducible refine And.intro ?_ ?_;focus first|omega|rfl|assumption|exact⟨_,rfl,rfl⟩|(simp;omega)|(simp;done)))
    with_reducible refine aA (fun hb=> ?_) (fun hb=> ?_)<;>have h:=hb<;>(try simp only[wf_preprocess] at h)<;>simp -implicitDefEqProofs (disch:=omega) only[go_sem,hb]<;>(repeat(with_reducible refine And.intro ?_ ?_;focus first|omega|rfl|assumption|exact⟨_,rfl,rfl⟩|(simp;omega)|(simp;done)))
    ·rw[hf,h,Bool.true_and];exact aQ (decide_eq_decide.2 (by omega))
    ·rw[hf,h,Bool.false_and]
   ·rw[if_pos h] at hf;refine ay tail ?_;simp -implicitDefEqProofs (disch:=omega) only[go_sem];rw[hf,Bool.not_not]
  ·have hcl:∀y∈xs,aG prog 197 [y.v] (.c (.d (.b (!iO y)))):=fun y hy S=>by
    have hys:=List.sizeOf_lt_of_mem hy;refine zcx [.tmp 2] func197 ntmps197 ?_;simp -implicitDefEqProofs (disch:=omega) only[go_sem];refine ay (ih y (by omega) (hsz y hy)) ?_;simp -implicitDefEqProofs (disch:=omega) only[go_sem]<;>(repeat(with_reducible refine And.intro ?_ ?_;focus first|omega|rfl|assumption|exact⟨_,rfl,rfl⟩|(simp;omega)|(simp;done)))
   have hidx:aG prog 224 [.c (.d (.sl (xs.map ah.enc))),.c (.fn 197 [])] (.c (.d (.i .i64 (oD (fun y=> !iO y) xs)))):=fun S=>by
    refine zcx [.tmp 4] func224 ntmps224 ?_;simp -implicitDefEqProofs (disch:=omega) only[go_sem]
    refine bC (ι:=Nat) zmx rfl [0,1,7,8] (fun i=>[.c (.d (.sl (xs.map ah.enc))),.c (.fn 197 []),.c (.d (.i .i64 xs.length)),.c (.d (.i .i64 i))]) (fun _=>[]::S)
     (fun i=>i<=xs.length/\∀j,∀hj:j<xs.length,j<i->iO xs[j]=true) (fun i=>xs.length-i) 0 rfl rfl ⟨Nat.zero_le _,fun j _ h=>by omega⟩ ?_
    rintro i ⟨p1,p2⟩;simp -implicitDefEqProofs (disch:=omega) only[go_sem]
    with_reducible refine aA (fun hb=> ?_) (fun hb=> ?_)<;>have h:=hb<;>(try simp only[wf_preprocess] at h)<;>simp -implicitDefEqProofs (disch:=omega) only[go_sem,hb]<;>(repeat(with_reducible refine And.intro ?_ ?_;focus first|omega|rfl|assumption|exact⟨_,rfl,rfl⟩|(simp;omega)|(simp;done)))
    ·have hi:i<xs.length:=by omega
     (repeat(with_reducible refine And.intro ?_ ?_;focus first|omega|rfl|assumption|exact⟨_,rfl,rfl⟩|(simp;omega)|(simp;done)))
     refine ay (hcl xs[i] (List.getElem_mem hi)) ?_;simp -implicitDefEqProofs (disch:=omega) only[go_sem]<;>(repeat(with_reducible refine And.intro ?_ ?_;focus first|omega|rfl|assumption|exact⟨_,rfl,rfl⟩|(simp;omega)|(simp;done)))
     with_reducible refine aA (fun hb=> ?_) (fun hb=> ?_)<;>have h:=hb<;>(try simp only[wf_preprocess] at h)<;>simp -implicitDefEqProofs (disch:=omega) only[go_sem,hb]<;>(repeat(with_reducible refine And.intro ?_ ?_;focus first|omega|rfl|assumption|exact⟨_,rfl,rfl⟩|(simp;omega)|(simp;done)))
     ·rw[nS hi (fun j hj hji=>by rw[p2 j hj hji];rfl) (by rw[h];rfl)]
     ·refine cO (i+1) (by omega) rfl rfl ⟨by omega,fun j hj hji=> ?_⟩;by_cases e:j=i
      ·subst e;exact h
      ·exact p2 j hj (by omega)
    ·rw[qL (fun j hj=>by rw[p2 j hj (by omega)];rfl)]
   refine zcx [.tmp 4] func196 ntmps196 ?_;simp -implicitDefEqProofs (disch:=omega) only[go_sem];refine ay (hidx) ?_;simp -implicitDefEqProofs (disch:=omega) only[go_sem]<;>(repeat(with_reducible refine And.intro ?_ ?_;focus first|omega|rfl|assumption|exact⟨_,rfl,rfl⟩|(simp;omega)|(simp;done)));rw[<-JA];exact aQ pK
theorem R8(x:ah)(hsz:x.sz<=67108864):aG prog 163 [x.v] (.c (.d (.b (iO x)))):=(Ep _).1 x (Nat.lt_succ_self _) hsz
theorem Bv:∀n:Nat,∀x:ah,SizeOf.sizeOf x<n->x.sz<=67108864->aG prog 164 [x.v] (.c (.d (.i .i64 (ku x))))
 |0=>fun x h=>by omega
 |n+1=>by
  have ih:=Bv n;intro x hn hsz S;have hts:=Bu hsz;have hd:=LZ x;have hd1:=AP x;have hd2:=He hsz;refine zcx [.tmp 2] func164 ntmps164 ?_;simp -implicitDefEqProofs (disch:=omega) only[go_sem]
  with_reducible refine aA (fun hb=> ?_) (fun hb=> ?_)<;>have h:=hb<;>(try simp only[wf_preprocess] at h)<;>simp -implicitDefEqProofs (disch:=omega) only[go_sem,hb]<;>(repeat(with_reducible refine And.intro ?_ ?_;focus first|omega|rfl|assumption|exact⟨_,rfl,rfl⟩|(simp;omega)|(simp;done)))
  ·rw[if_neg h] at hd;rw[hd];rfl
  rw[if_pos h] at hd
  refine bC (ι:=Nat×Nat) zmx rfl [3,10,11,12] (fun y=>[.c (.d (.i .i64 y.2)),.c (.d (.sl (x.aj.map ah.enc))),.c (.d (.i .i64 x.aj.length)),.c (.d (.i .i64 y.1))]) (fun y=>[.box [.d (.s x.aM),.d (.sl (x.aj.map ah.enc))]]::S)
   (fun y=>y.1<=x.aj.length/\ku x=max y.2 (mO (x.aj.drop y.1))+1) (fun y=>x.aj.length-y.1) (0,0) rfl rfl ⟨Nat.zero_le _,by simp[hd]⟩ ?_
  rintro⟨i,c⟩ ⟨p1,p2⟩;simp only at p1 p2;simp -implicitDefEqProofs (disch:=omega) only[go_sem]
  with_reducible refine aA (fun hb=> ?_) (fun hb=> ?_)<;>have h:=hb<;>(try simp only[wf_preprocess] at h)<;>simp -implicitDefEqProofs (disch:=omega) only[go_sem,hb]<;>(repeat(with_reducible refine And.intro ?_ ?_;focus first|omega|rfl|assumption|exact⟨_,rfl,rfl⟩|(simp;omega)|(simp;done)))
  ·have hi:i<x.aj.length:=by omega
   have hsz':=yL hi hsz;rw[Eo hi] at p2
   (repeat(with_reducible refine And.intro ?_ ?_;focus first|omega|rfl|assumption|exact⟨_,rfl,rfl⟩|(simp;omega)|(simp;done)))
   refine ay (ih x.aj[i] (by have:=ah.JG hi;omega) (by omega)) ?_;simp -implicitDefEqProofs (disch:=omega) only[go_sem]<;>(repeat(with_reducible refine And.intro ?_ ?_;focus first|omega|rfl|assumption|exact⟨_,rfl,rfl⟩|(simp;omega)|(simp;done)));rw[show max (c:Int) ((ku x.aj[i]:Int))=((max c (ku x.aj[i]):Nat):Int) by omega];exact dM 1 (by decide) (i+1,max c (ku x.aj[i])) (by simp only;omega) rfl rfl rfl rfl ⟨by simp only;omega,by simp only;omega⟩
  ·have hi:i=x.aj.length:=by omega
   rw[hi,List.drop_length,mO] at p2
   (repeat(with_reducible refine And.intro ?_ ?_;focus first|omega|rfl|assumption|exact⟨_,rfl,rfl⟩|(simp;omega)|(simp;done)))
   exact int_eq (by omega)
theorem Nc(x:ah)(hsz:x.sz<=67108864):aG prog 164 [x.v] (.c (.d (.i .i64 (ku x)))):=Bv _ x (Nat.lt_succ_self _) hsz
theorem Dl:∀n:Nat,∀x:ah,SizeOf.sizeOf x<n->x.sz<=67108864->aG prog 165 [x.v] (.c (.d (.i .i64 (jG x))))
 |0=>fun x h=>by omega
 |n+1=>by
  have ih:=Dl n;intro x hn hsz S;have hts:=Bu hsz;have hd2:=He hsz;refine zcx [.tmp 2] func165 ntmps165 ?_;simp -implicitDefEqProofs (disch:=omega) only[go_sem]
  refine bC (ι:=Nat×Nat) zmx rfl [3,7,8,9] (fun y=>[.c (.d (.i .i64 y.2)),.c (.d (.sl (x.aj.map ah.enc))),.c (.d (.i .i64 x.aj.length)),.c (.d (.i .i64 y.1))]) (fun y=>[.box [.d (.s x.aM),.d (.sl (x.aj.map ah.enc))]]::S)
   (fun y=>y.1<=x.aj.length/\jG x=y.2+lJ (x.aj.drop y.1)) (fun y=>x.aj.length-y.1) (0,1) rfl rfl ⟨Nat.zero_le _,by simp[PX];omega⟩ ?_
  rintro⟨i,c⟩ ⟨p1,p2⟩;simp only at p1 p2;simp -implicitDefEqProofs (disch:=omega) only[go_sem]
  with_reducible refine aA (fun hb=> ?_) (fun hb=> ?_)<;>have h:=hb<;>(try simp only[wf_preprocess] at h)<;>simp -implicitDefEqProofs (disch:=omega) only[go_sem,hb]<;>(repeat(with_reducible refine And.intro ?_ ?_;focus first|omega|rfl|assumption|exact⟨_,rfl,rfl⟩|(simp;omega)|(simp;done)))
  ·have hi:i<x.aj.length:=by omega
   have hsz':=yL hi hsz;rw[Gl hi] at p2
   (repeat(with_reducible refine And.intro ?_ ?_;focus first|omega|rfl|assumption|exact⟨_,rfl,rfl⟩|(simp;omega)|(simp;done)))
   refine ay (ih x.aj[i] (by have:=ah.JG hi;omega) (by omega)) ?_;simp -implicitDefEqProofs (disch:=omega) only[go_sem]<;>(repeat(with_reducible refine And.intro ?_ ?_;focus first|omega|rfl|assumption|exact⟨_,rfl,rfl⟩|(simp;omega)|(simp;done)));rw[show(c:Int)+(jG x.aj[i]:Int)=((c+jG x.aj[i]:Nat):Int) by omega];exact dM 1 (by decide) (i+1,c+jG x.aj[i]) (by simp only;omega) rfl rfl rfl rfl ⟨by simp only;omega,by simp only;omega⟩
  ·have hi:i=x.aj.length:=by omega
   rw[hi,List.drop_length,lJ] at p2;exact int_eq (by omega)
theorem P7(x:ah)(hsz:x.sz<=67108864):aG prog 165 [x.v] (.c (.d (.i .i64 (jG x)))):=Dl _ x (Nat.lt_succ_self _) hsz
theorem xP(x:ah)(hsz:x.sz<=67108864):aG prog 95 [x.v] (.c (.d (.b (ig x)))):=fun S=>by
 refine zcx [.tmp 2] func95 ntmps95 ?_;simp -implicitDefEqProofs (disch:=omega) only[go_sem];refine ay (R8 x hsz) ?_;simp -implicitDefEqProofs (disch:=omega) only[go_sem]<;>(repeat(with_reducible refine And.intro ?_ ?_;focus first|omega|rfl|assumption|exact⟨_,rfl,rfl⟩|(simp;omega)|(simp;done)))
 with_reducible refine aA (fun hb=> ?_) (fun hb=> ?_)<;>have h:=hb<;>(try simp only[wf_preprocess] at h)<;>simp -implicitDefEqProofs (disch:=omega) only[go_sem,hb]<;>(repeat(with_reducible refine And.intro ?_ ?_;focus first|omega|rfl|assumption|exact⟨_,rfl,rfl⟩|(simp;omega)|(simp;done)))
 ·have hf:=h;refine ay (Nc x hsz) ?_;simp -implicitDefEqProofs (disch:=omega) only[go_sem]<;>(repeat(with_reducible refine And.intro ?_ ?_;focus first|omega|rfl|assumption|exact⟨_,rfl,rfl⟩|(simp;omega)|(simp;done)))
  with_reducible refine aA (fun hb=> ?_) (fun hb=> ?_)<;>have h:=hb<;>(try simp only[wf_preprocess] at h)<;>simp -implicitDefEqProofs (disch:=omega) only[go_sem,hb]<;>(repeat(with_reducible refine And.intro ?_ ?_;focus first|omega|rfl|assumption|exact⟨_,rfl,rfl⟩|(simp;omega)|(simp;done)))
  ·refine ay (P7 x hsz) ?_;simp -implicitDefEqProofs (disch:=omega) only[go_sem]<;>(repeat(with_reducible refine And.intro ?_ ?_;focus first|omega|rfl|assumption|exact⟨_,rfl,rfl⟩|(simp;omega)|(simp;done)));refine aQ ?_;unfold ig;rw[hf,Bool.true_and];exact decide_eq_decide.2 (by omega)
  ·refine aQ ?_;unfold ig;rw[hf,Bool.true_and];exact(decide_eq_false (by omega)).symm
 ·refine aQ ?_;unfold ig;rw[h,Bool.false_and]
theorem JI:∀n:Nat,∀x:ah,SizeOf.sizeOf x<n->∀l:Int,0<=l->l<=1073741824->x.sz<=67108864->aG prog 146 [x.v,.c (.d (.i .i64 l))] (.c (.d (.i .i64 (kQ l (jG x)))))
 |0=>fun x h=>by omega
 |n+1=>by
  have ih:=JI n;intro x hn l h0 h1 hsz S;have hts:=Bu hsz;have hcn:=PX x;refine zcx [.tmp 4] func146 ntmps146 ?_;simp -implicitDefEqProofs (disch:=omega) only[go_sem]
  refine bC (ι:=Nat×Int) zmx rfl [1,2,5] (fun y=>[.c (.d (.i .i64 y.2)),.c (.ptr (0,0) 0),.c (.d (.i .i64 y.1))]) (fun y=>[.box [.d (.s x.aM),.d (.sl (x.aj.map ah.enc))]]::S)
   (fun y=>y.1<=x.aj.length/\ -1<=y.2/\y.2<=1073741824/\(0<=y.2->kQ l (jG x)=kQ y.2 (lJ (x.aj.drop y.1)))/\(y.2<0->kQ l (jG x)= -1)) (fun y=>x.aj.length-y.1) (0,l-1) rfl rfl ⟨Nat.zero_le _,by simp only;omega,by simp only;omega,fun h=> ?_,fun h=> ?_⟩ ?_
  ·simp only[List.drop_zero] at h ⊢;unfold kQ;rw[hcn];split<;>split<;>omega
  ·simp only at h;exact Fh (by omega)
  rintro⟨i,c⟩ ⟨p1,p2,p3,p4,p5⟩;simp only at p1 p2 p3 p4 p5;simp -implicitDefEqProofs (disch:=omega) only[go_sem]
  with_reducible refine aA (fun hb=> ?_) (fun hb=> ?_)<;>have h:=hb<;>(try simp only[wf_preprocess] at h)<;>simp -implicitDefEqProofs (disch:=omega) only[go_sem,hb]<;>(repeat(with_reducible refine And.intro ?_ ?_;focus first|omega|rfl|assumption|exact⟨_,rfl,rfl⟩|(simp;omega)|(simp;done)))
  ·have hi:i<x.aj.length:=by omega
   with_reducible refine aA (fun hb=> ?_) (fun hb=> ?_)<;>have h:=hb<;>(try simp only[wf_preprocess] at h)<;>simp -implicitDefEqProofs (disch:=omega) only[go_sem,hb]<;>(repeat(with_reducible refine And.intro ?_ ?_;focus first|omega|rfl|assumption|exact⟨_,rfl,rfl⟩|(simp;omega)|(simp;done)))
   ·have hsz':=yL hi hsz;have p6:=p4 h;rw[Gl hi] at p6
    (repeat(with_reducible refine And.intro ?_ ?_;focus first|omega|rfl|assumption|exact⟨_,rfl,rfl⟩|(simp;omega)|(simp;done)))
    refine ay (ih x.aj[i] (by have:=ah.JG hi;omega) c (by omega) (by omega) (by omega)) ?_;simp -implicitDefEqProofs (disch:=omega) only[go_sem]<;>(repeat(with_reducible refine And.intro ?_ ?_;focus first|omega|rfl|assumption|exact⟨_,rfl,rfl⟩|(simp;omega)|(simp;done)));refine cO (i+1,kQ c _) (by simp only;omega) rfl rfl ⟨by simp only;omega,?_,?_,fun h=> ?_,fun h=> ?_⟩
    ·simp only;unfold kQ;split<;>omega
    ·simp only;unfold kQ;split<;>omega
    ·simp only at h ⊢;rw[p6];have:=Fg (l:=c) (a:=jG x.aj[i]) (by omega);rw[this.1];unfold kQ;split<;>split<;>omega
    ·simp only at h ⊢;rw[p6];have:=Cn h;exact Fh (by omega)
   ·have hc:c= -1:=by omega
    rw[p5 (by omega),hc]
  ·have hi:i=x.aj.length:=by omega
   by_cases hc:0<=c
   ·rw[p4 hc,hi,List.drop_length,lJ,Ph (by omega)];exact int_eq (by simp)
   ·rw[p5 (by omega)];exact int_eq (by omega)
theorem Y1(x:ah)(l:Int)(h0:0<=l)(h1:l<=1073741824)(hsz:x.sz<=67108864):aG prog 146 [x.v,.c (.d (.i .i64 l))] (.c (.d (.i .i64 (kQ l (jG x))))):=JI _ x (Nat.lt_succ_self _) l h0 h1 hsz
theorem JJ:∀n:Nat,∀x:ah,SizeOf.sizeOf x<n->x.sz<=67108864->aG prog 147 [x.v] (.c (.d (.b (iO x))))
 |0=>fun x h=>by omega
 |n+1=>by
  have ih:=JJ n;intro x hn hsz S;have hts:=Bu hsz;have hf:=zx x;refine zcx [.tmp 2] func147 ntmps147 ?_;simp -implicitDefEqProofs (disch:=omega) only[go_sem]
  with_reducible refine aA (fun hb=> ?_) (fun hb=> ?_)<;>have h:=hb<;>(try simp only[wf_preprocess] at h)<;>simp -implicitDefEqProofs (disch:=omega) only[go_sem,hb]<;>(repeat(with_reducible refine And.intro ?_ ?_;focus first|omega|rfl|assumption|exact⟨_,rfl,rfl⟩|(simp;omega)|(simp;done)))
  ·rw[if_neg h] at hf;refine ay (VY x.aM (by omega)) ?_;simp -implicitDefEqProofs (disch:=omega) only[go_sem]<;>(repeat(with_reducible refine And.intro ?_ ?_;focus first|omega|rfl|assumption|exact⟨_,rfl,rfl⟩|(simp;omega)|(simp;done)))
   with_reducible refine aA (fun hb=> ?_) (fun hb=> ?_)<;>have h:=hb<;>(try simp only[wf_preprocess] at h)<;>simp -implicitDefEqProofs (disch:=omega) only[go_sem,hb]<;>(repeat(with_reducible refine And.intro ?_ ?_;focus first|omega|rfl|assumption|exact⟨_,rfl,rfl⟩|(simp;omega)|(simp;done)))
   ·rw[hf,h,Bool.true_and];exact aQ (decide_eq_decide.2 (by omega))
   ·rw[hf,h,Bool.false_and]
  rw[if_pos h] at hf
  refine bC (ι:=Nat) zmx rfl [1,3] (fun y=>[.c (.ptr (0,0) 0),.c (.d (.i .i64 y))]) (fun y=>[.box [.d (.s x.aM),.d (.sl (x.aj.map ah.enc))]]::S)
   (fun y=>y<=x.aj.length/\iO x=iK (x.aj.drop y)) (fun y=>x.aj.length-y) 0 rfl rfl ⟨Nat.zero_le _,hf⟩ ?_
  rintro i ⟨p1,p2⟩;simp -implicitDefEqProofs (disch:=omega) only[go_sem]
  with_reducible refine aA (fun hb=> ?_) (fun hb=> ?_)<;>have h:=hb<;>(try simp only[wf_preprocess] at h)<;>simp -implicitDefEqProofs (disch:=omega) only[go_sem,hb]<;>(repeat(with_reducible refine And.intro ?_ ?_;focus first|omega|rfl|assumption|exact⟨_,rfl,rfl⟩|(simp;omega)|(simp;done)))
  ·have hi:i<x.aj.length:=by omega
   have hsz':=yL hi hsz;rw[R7 hi] at p2
   (repeat(with_reducible refine And.intro ?_ ?_;focus first|omega|rfl|assumption|exact⟨_,rfl,rfl⟩|(simp;omega)|(simp;done)))
   refine ay (ih x.aj[i] (by have:=ah.JG hi;omega) (by omega)) ?_;simp -implicitDefEqProofs (disch:=omega) only[go_sem]<;>(repeat(with_reducible refine And.intro ?_ ?_;focus first|omega|rfl|assumption|exact⟨_,rfl,rfl⟩|(simp;omega)|(simp;done)))
   with_reducible refine aA (fun hb=> ?_) (fun hb=> ?_)<;>have h:=hb<;>(try simp only[wf_preprocess] at h)<;>simp -implicitDefEqProofs (disch:=omega) only[go_sem,hb]<;>(repeat(with_reducible refine And.intro ?_ ?_;focus first|omega|rfl|assumption|exact⟨_,rfl,rfl⟩|(simp;omega)|(simp;done)))
   ·rw[p2,h,Bool.false_and]
   ·exact cO (i+1) (by omega) rfl rfl ⟨by omega,by rw[p2,h,Bool.true_and]⟩
  ·have hi:i=x.aj.length:=by omega
   rw[hi,List.drop_length,iK] at p2;rw[p2]
theorem Y2(x:ah)(hsz:x.sz<=67108864):aG prog 147 [x.v] (.c (.d (.b (iO x)))):=JJ _ x (Nat.lt_succ_self _) hsz
theorem Bw:∀n:Nat,∀x:ah,SizeOf.sizeOf x<n->x.sz<=67108864->aG prog 148 [x.v] (.c (.d (.i .i64 (ku x))))
 |0=>fun x h=>by omega
 |n+1=>by
  have ih:=Bw n;intro x hn hsz S;have hts:=Bu hsz;have hd:=LZ x;have hd1:=AP x;have hd2:=He hsz;refine zcx [.tmp 2] func148 ntmps148 ?_;simp -implicitDefEqProofs (disch:=omega) only[go_sem]
  with_reducible refine aA (fun hb=> ?_) (fun hb=> ?_)<;>have h:=hb<;>(try simp only[wf_preprocess] at h)<;>simp -implicitDefEqProofs (disch:=omega) only[go_sem,hb]<;>(repeat(with_reducible refine And.intro ?_ ?_;focus first|omega|rfl|assumption|exact⟨_,rfl,rfl⟩|(simp;omega)|(simp;done)))
  ·rw[if_neg h] at hd;rw[hd];rfl
  rw[if_pos h] at hd
  refine bC (ι:=Nat×Nat) zmx rfl [1,3,4] (fun y=>[.c (.ptr (0,0) 0),.c (.d (.i .i64 y.2)),.c (.d (.i .i64 y.1))]) (fun y=>[.box [.d (.s x.aM),.d (.sl (x.aj.map ah.enc))]]::S)
   (fun y=>y.1<=x.aj.length/\ku x=max y.2 (mO (x.aj.drop y.1))+1) (fun y=>x.aj.length-y.1) (0,0) rfl rfl ⟨Nat.zero_le _,by simp[hd]⟩ ?_
  rintro⟨i,c⟩ ⟨p1,p2⟩;simp only at p1 p2;simp -implicitDefEqProofs (disch:=omega) only[go_sem]
  with_reducible refine aA (fun hb=> ?_) (fun hb=> ?_)<;>have h:=hb<;>(try simp only[wf_preprocess] at h)<;>simp -implicitDefEqProofs (disch:=omega) only[go_sem,hb]<;>(repeat(with_reducible refine And.intro ?_ ?_;focus first|omega|rfl|assumption|exact⟨_,rfl,rfl⟩|(simp;omega)|(simp;done)))
  ·have hi:i<x.aj.length:=by omega
   have hsz':=yL hi hsz;rw[Eo hi] at p2
   (repeat(with_reducible refine And.intro ?_ ?_;focus first|omega|rfl|assumption|exact⟨_,rfl,rfl⟩|(simp;omega)|(simp;done)))
   refine ay (ih x.aj[i] (by have:=ah.JG hi;omega) (by omega)) ?_;simp -implicitDefEqProofs (disch:=omega) only[go_sem]<;>(repeat(with_reducible refine And.intro ?_ ?_;focus first|omega|rfl|assumption|exact⟨_,rfl,rfl⟩|(simp;omega)|(simp;done)));refine ay (PK _ _) ?_;simp -implicitDefEqProofs (disch:=omega) only[go_sem]<;>(repeat(with_reducible refine And.intro ?_ ?_;focus first|omega|rfl|assumption|exact⟨_,rfl,rfl⟩|(simp;omega)|(simp;done)));rw[show max (c:Int) ((ku x.aj[i]:Int))=((max c (ku x.aj[i]):Nat):Int) by omega];exact cO (i+1,max c (ku x.aj[i])) (by simp only;omega) rfl rfl ⟨by simp only;omega,by simp only;omega⟩
  ·have hi:i=x.aj.length:=by omega
   rw[hi,List.drop_length,mO] at p2
   (repeat(with_reducible refine And.intro ?_ ?_;focus first|omega|rfl|assumption|exact⟨_,rfl,rfl⟩|(simp;omega)|(simp;done)))
   exact int_eq (by omega)
theorem Nf(x:ah)(hsz:x.sz<=67108864):aG prog 148 [x.v] (.c (.d (.i .i64 (ku x)))):=Bw _ x (Nat.lt_succ_self _) hsz
theorem xQ(x:ah)(hsz:x.sz<=67108864):aG prog 68 [x.v] (.c (.d (.b (ig x)))):=fun S=>by
 refine zcx [.tmp 2] func68 ntmps68 ?_;simp -implicitDefEqProofs (disch:=omega) only[go_sem];refine ay (Y1 x 900 (by omega) (by omega) hsz) ?_;simp -implicitDefEqProofs (disch:=omega) only[go_sem]<;>(repeat(with_reducible refine And.intro ?_ ?_;focus first|omega|rfl|assumption|exact⟨_,rfl,rfl⟩|(simp;omega)|(simp;done)))
 with_reducible refine aA (fun hb=> ?_) (fun hb=> ?_)<;>have h:=hb<;>(try simp only[wf_preprocess] at h)<;>simp -implicitDefEqProofs (disch:=omega) only[go_sem,hb]<;>(repeat(with_reducible refine And.intro ?_ ?_;focus first|omega|rfl|assumption|exact⟨_,rfl,rfl⟩|(simp;omega)|(simp;done)))
 ·have h1:=(Fg (l:=900) (a:=jG x) (by omega)).2;refine ay (Y2 x hsz) ?_;simp -implicitDefEqProofs (disch:=omega) only[go_sem]<;>(repeat(with_reducible refine And.intro ?_ ?_;focus first|omega|rfl|assumption|exact⟨_,rfl,rfl⟩|(simp;omega)|(simp;done)))
  with_reducible refine aA (fun hb=> ?_) (fun hb=> ?_)<;>have h:=hb<;>(try simp only[wf_preprocess] at h)<;>simp -implicitDefEqProofs (disch:=omega) only[go_sem,hb]<;>(repeat(with_reducible refine And.intro ?_ ?_;focus first|omega|rfl|assumption|exact⟨_,rfl,rfl⟩|(simp;omega)|(simp;done)))
  ·have hf:=h;refine ay (Nf x hsz) ?_;simp -implicitDefEqProofs (disch:=omega) only[go_sem]<;>(repeat(with_reducible refine And.intro ?_ ?_;focus first|omega|rfl|assumption|exact⟨_,rfl,rfl⟩|(simp;omega)|(simp;done)));refine aQ ?_;unfold ig;rw[hf,Bool.true_and];exact decide_eq_decide.2 (by omega)
  ·refine aQ ?_;unfold ig;rw[h,Bool.false_and]
 ·have h1:=Cn (l:=900) (a:=jG x) (by omega);refine aQ ?_;unfold ig;rw[decide_eq_false (by omega),Bool.and_false]
def lx(l:List ah)(n:Nat):List (List D):=dU (l.map ah.enc) n
def zB(x:ah):Nat:=pO x.enc
def gV(l:List ah):Nat:=lT (l.map ah.enc)
theorem mP(x:ah)(n:Nat):dL x.enc n=[.s x.aM,.ol n (lx x.aj (n+1))]:=by
 rw[ah.aB];simp only[dL,kC,nU,Nat.add_zero,lx]
theorem ug(s:List UInt8)(n:Nat):dL (bB s).enc n=[.s s,.ol n []]:=by rw[mP];rfl
theorem aew(x:ah):zB x=gV x.aj+1:=by
 unfold zB gV;rw[ah.aB];simp only[pO,nU];omega
theorem uh(s:List UInt8):zB (bB s)=1:=by rw[aew];rfl
theorem xk(n:Nat):lx [] n=[]:=rfl
theorem ql(x:ah)(l:List ah)(n:Nat):lx (x::l) n=dL x.enc n::lx l (n+zB x):=rfl
theorem jS(a b:List ah)(n:Nat):lx (a++b) n=lx a n++lx b (n+gV a):=by unfold lx gV;rw[List.map_append,oF]
theorem Y3:gV []=0:=rfl
theorem VZ(x:ah)(l:List ah):gV (x::l)=zB x+gV l:=rfl
theorem gL(l:List ah)(n:Nat):(lx l n).length=l.length:=by unfold lx;rw[jw,List.length_map]
theorem mQ{l:List ah}{n:Nat}:∀r∈lx l n,r.length=2:=yC fun r hr=>by
 obtain⟨z,_,rfl⟩:=List.mem_map.1 hr;exact z.bK
theorem Fy{l:List ah}{i:Nat}(hi:i<l.length)(n:Nat):lx (l.take i) n++[dL l[i].enc (n+gV (l.take i))]=lx (l.take (i+1)) n:=by
 rw[List.take_succ_eq_append_getElem hi,jS];rfl
theorem CK{l:List ah}{i:Nat}(hi:i<l.length)(n:Nat):lx (l.take i) n++[[.s l[i].aM,.ol (n+gV (l.take i)) (lx l[i].aj (n+gV (l.take i)+1))]]=lx (l.take (i+1)) n:=by
 rw[<-Fy hi,mP]
theorem ab8{base l:List ah}{i:Nat}(hi:i<l.length)(q:Nat):lx (base++l.take i) q++[[.s l[i].aM,.ol (q+gV (base++l.take i)) (lx l[i].aj (q+gV (base++l.take i)+1))]]=lx (base++l.take (i+1)) q:=by
 rw[List.take_succ_eq_append_getElem hi,<-List.append_assoc,jS (base++l.take i),ql,xk,mP]
theorem jN{l:List ah}:∀r∈l.map ah.enc,r.length=2:=fun r hr=>by
 obtain⟨z,_,rfl⟩:=List.mem_map.1 hr;exact z.bK
theorem AR{cs cs':List C}(hl:cs'.length=cs.length)(h:∀(j:Nat)(x y:C),cs[j]? =some x->cs'[j]? =some y->∀w σ S β v,fH w σ S β x v->fH w σ S β y v):Less (.agg cs) (.agg cs'):=by
 rintro w σ S β v ⟨a,ha,hc⟩;refine⟨a,ha,hl.trans hc.1,fun j y hy=> ?_⟩
 have hj:j<cs.length:=by rw[<-hl];exact(List.getElem?_eq_some_iff.1 hy).1
 obtain⟨v,h1,h2,h3⟩:=hc.2 j _ (List.getElem?_eq_getElem hj);exact⟨v,h1,h j _ y (List.getElem?_eq_getElem hj) hy w σ S β v h2,h3⟩
theorem aga{w:World}{σ:Nat->Nat}{S:Store}{β:Hs}{v:Value}(n:Nat)(h:fH w σ S β (.bE []) v):fH w σ S β (.d (.ol n [])) v:=by
 obtain⟨hd,ad,m,hval⟩:=h
 have hm:m=0:=by rw[hval] at hd;cases hd<;>rfl
 subst hm;rw[hval];exact .nP _ _ _
theorem K4(s:List UInt8)(n:Nat):Less (.agg [.d (.s s),.bE []]) (.agg [.d (.s s),.d (.ol n [])]):=AR rfl fun j x y hx hy w σ S β v hv=>by
 match j,hx,hy with
 |0,hx,hy=>cases hx;cases hy;exact hv
 |1,hx,hy=>cases hx;cases hy;exact aga _ hv
 |j+2,hx,hy=>simp at hx
theorem aex(s:List UInt8)(n:Nat)(es:List (List D)):Less (.agg [.d (.s s),.iX n es]) (.agg [.d (.s s),.d (.ol n es)]):=AR rfl fun j x y hx hy w σ S β v hv=>by
 match j,hx,hy with
 |0,hx,hy=>cases hx;cases hy;exact hv
 |1,hx,hy=>cases hx;cases hy;exact hv.1
 |j+2,hx,hy=>simp at hx
theorem R9(s:List UInt8):aG prog 97 [.c (.d (.s s))] (.agg [.d (.s s),.bE []]):=fun S=>by
 refine zcx [.cell 2 39] func97 ntmps97 ?_;simp -implicitDefEqProofs (disch:=omega) only[go_sem]
theorem fq(s:List UInt8)(n:Nat):aG prog 97 [.c (.d (.s s))] (.agg [.d (.s s),.d (.ol n [])]):=aG.less (R9 s) (K4 s n)
theorem yD(d:D):aG prog 96 [.c (.d d)] (.agg [.d (.s []),.d d]):=fun S=>by
 refine zcx [.cell 2 39] func96 ntmps96 ?_;simp -implicitDefEqProofs (disch:=omega) only[go_sem]
theorem Sb(n:Nat)(es:List (List D)):aG prog 96 [.c (.iX n es)] (.agg [.d (.s []),.iX n es]):=fun S=>by
 refine zcx [.cell 2 39] func96 ntmps96 ?_;simp -implicitDefEqProofs (disch:=omega) only[go_sem]
theorem u7(n:Nat)(es:List (List D)):aG prog 96 [.c (.iX n es)] (.agg [.d (.s []),.d (.ol n es)]):=aG.less (Sb n es) (aex [] n es)
theorem kZ(l j:Nat)(es:List (List D))(S:Store):bF prog 96 [.c (.bL (l,j) es)] S (fun r S'=>r=.agg [.d (.s []),.bL (l,j) es]/\S'=S):=by
 refine zcx [.cell 2 39] func96 ntmps96 ?_;simp -implicitDefEqProofs (disch:=omega) only[go_sem]
theorem xR(xs:List (List UInt8))(hx:xs.length<=1073741824)(n q:Nat):aG prog 166 [.c (.d (.sl (xs.map encS)))] (.c (.d (.ol n (lx (aU xs) q)))):=fun S=>by
 refine lK (n) (rs:=[.tmp 2]) zmx func166 ntmps166 rfl rfl rfl rfl rfl ?_;simp -implicitDefEqProofs (disch:=omega) only[go_sem]
 (repeat(with_reducible refine And.intro ?_ ?_;focus first|omega|rfl|assumption|exact⟨_,rfl,rfl⟩|(simp;omega)|(simp;done)))
 refine qd n 3 2 [] (.inl rfl) (by simp) ?_
 refine bC (ι:=Nat) zmx rfl [3,7,8,9] (fun i=>[.c (.bL (0,1) (lx ((aU xs).take i) q)),.c (.d (.sl (xs.map encS))),.c (.d (.i .i64 xs.length)),.c (.d (.i .i64 i))]) (fun i=>[.seed n,.dY n 2 (lx ((aU xs).take i) q)]::S)
  (fun i=>i<=xs.length) (fun i=>xs.length-i) 0 rfl rfl (Nat.zero_le _) ?_
 intro i hi;simp -implicitDefEqProofs (disch:=omega) only[go_sem]
 with_reducible refine aA (fun hb=> ?_) (fun hb=> ?_)<;>have h:=hb<;>(try simp only[wf_preprocess] at h)<;>simp -implicitDefEqProofs (disch:=omega) only[go_sem,hb]<;>(repeat(with_reducible refine And.intro ?_ ?_;focus first|omega|rfl|assumption|exact⟨_,rfl,rfl⟩|(simp;omega)|(simp;done)))
 ·have hi':i<xs.length:=by omega
  have hw:i<(aU xs).length:=by rw[lI];exact hi'
  have hg:(aU xs)[i]=bB xs[i]:=by simp[aU]
  have hl:(lx ((aU xs).take i) q).length<=i:=by rw[gL];exact List.length_take_le _ _
  (repeat(with_reducible refine And.intro ?_ ?_;focus first|omega|rfl|assumption|exact⟨_,rfl,rfl⟩|(simp;omega)|(simp;done)))
  refine ay (fq xs[i] (q+gV ((aU xs).take i))) ?_;simp -implicitDefEqProofs (disch:=omega) only[go_sem]
  (repeat(with_reducible refine And.intro ?_ ?_;focus first|omega|rfl|assumption|exact⟨_,rfl,rfl⟩|(simp;omega)|(simp;done)))
  have hs:=Fy hw q;rw[hg,ug] at hs;rw[hs];exact cO (i+1) (by omega) rfl rfl (by omega)
 ·have hi':i=(aU xs).length:=by rw[lI];omega
  rw[hi',List.take_length]
theorem Hf(xs:List (List UInt8))(hx:xs.length<=1073741824)(n:Nat):aG prog 99 [.c (.d (.sl (xs.map encS)))] (.agg [.d (.s []),.d (.ol n (lx (aU xs) (n+1)))]):=fun S=>by
 refine zcx [.cell 2 39] func99 ntmps99 ?_;simp -implicitDefEqProofs (disch:=omega) only[go_sem];refine ay (xR xs hx n (n+1)) ?_;simp -implicitDefEqProofs (disch:=omega) only[go_sem];refine ay (yD _) ?_;simp -implicitDefEqProofs (disch:=omega) only[go_sem]
theorem JK:∀N:Nat,(∀x:ak,SizeOf.sizeOf x<N->∀n:Nat,formed x=true->x.sz<=4194304->aG prog 98 [x.v] (.agg [.d (.s (eH x).aM),.d (.ol n (lx (eH x).aj (n+1)))]))/\
 (∀xs:List ak,SizeOf.sizeOf xs<N->∀n q:Nat,iA xs=true->xs.length<=4194304->(∀t∈xs,t.sz<=4194304)->aG prog 150 [.c (.d (.sl (xs.map ak.enc)))] (.c (.d (.ol n (lx (xs.map eH) q)))))
 |0=>⟨fun x h=>by omega,fun x h=>by omega⟩
 |N+1=>by
  obtain⟨ih,mF⟩:=JK N;refine⟨fun x hn n hf hsz=> ?_,fun xs hn n q hf hlen hsz=> ?_⟩
  ·have jl:=ak.iy x;have hts:=Aa hsz;have hx:=YS x;rw[wZ,Bool.and_eq_true] at hf;have hfi:=iR hf.1
   have hall:∀t∈x.fArgs,t.sz<=4194304:=fun t ht=>by
    obtain⟨i,hi,e⟩:=List.getElem_of_mem ht;rw[<-e];exact(qO hi hsz).1
   intro S;refine CF (n) 1 (rs:=[.cell 2 39]) zmx func98 ntmps98 rfl rfl rfl rfl rfl ?_;simp -implicitDefEqProofs (disch:=omega) only[go_sem]
   with_reducible refine aA (fun hb=> ?_) (fun hb=> ?_)<;>have h:=hb<;>(try simp only[wf_preprocess] at h)<;>simp -implicitDefEqProofs (disch:=omega) only[go_sem,hb]<;>(repeat(with_reducible refine And.intro ?_ ?_;focus first|omega|rfl|assumption|exact⟨_,rfl,rfl⟩|(simp;omega)|(simp;done)))
   ·rw[if_pos h] at hx;rw[hx]
    (repeat(with_reducible refine And.intro ?_ ?_;focus first|omega|rfl|assumption|exact⟨_,rfl,rfl⟩|(simp;omega)|(simp;done)))
    refine ay (fq _ n) ?_;simp -implicitDefEqProofs (disch:=omega) only[go_sem];rfl
   have k1:=h;rw[if_neg h] at hx
   with_reducible refine aA (fun hb=> ?_) (fun hb=> ?_)<;>have h:=hb<;>(try simp only[wf_preprocess] at h)<;>simp -implicitDefEqProofs (disch:=omega) only[go_sem,hb]<;>(repeat(with_reducible refine And.intro ?_ ?_;focus first|omega|rfl|assumption|exact⟨_,rfl,rfl⟩|(simp;omega)|(simp;done)))
   ·rw[if_pos h] at hx;rw[hx];refine ay (fq _ (n+1)) ?_;simp -implicitDefEqProofs (disch:=omega) only[go_sem];refine ay (fq _ (n+1+1)) ?_;simp -implicitDefEqProofs (disch:=omega) only[go_sem];refine ay (u7 _ _) ?_;simp -implicitDefEqProofs (disch:=omega) only[go_sem];rfl
   have k4:=h;rw[if_neg h] at hx
   with_reducible refine aA (fun hb=> ?_) (fun hb=> ?_)<;>have h:=hb<;>(try simp only[wf_preprocess] at h)<;>simp -implicitDefEqProofs (disch:=omega) only[go_sem,hb]<;>(repeat(with_reducible refine And.intro ?_ ?_;focus first|omega|rfl|assumption|exact⟨_,rfl,rfl⟩|(simp;omega)|(simp;done)))
   ·have hlen:x.fArgs.length=1:=by omega
    obtain⟨a,ha⟩:=List.length_eq_one_iff.1 hlen
    have ha0:x.fArgs[0]'(by omega)=a:=by simp[ha]
    rw[if_neg (by omega),if_pos h,ha] at hx;have hfa:formed a=true:=r9.1 hf.2 a (by rw[ha];simp);have hsa:a.sz<=4194304:=hall a (by rw[ha];simp)
    have hla:SizeOf.sizeOf a<N:=by
     have:=List.sizeOf_lt_of_mem (show a∈x.fArgs by rw[ha];simp);omega
    rw[hx];refine ay (fq _ (n+1)) ?_;simp -implicitDefEqProofs (disch:=omega) only[go_sem];refine ay (fq _ (n+1+1)) ?_;simp -implicitDefEqProofs (disch:=omega) only[go_sem,ha,List.getD_cons_zero]
    (repeat(with_reducible refine And.intro ?_ ?_;focus first|omega|rfl|assumption|exact⟨_,rfl,rfl⟩|(simp;omega)|(simp;done)))
    refine ay (ih a hla (n+1+1+1) hfa hsa) ?_;simp -implicitDefEqProofs (disch:=omega) only[go_sem];refine ay (u7 _ _) ?_;simp -implicitDefEqProofs (disch:=omega) only[go_sem];simp only[eP,dN,List.cons_append,List.nil_append,List.map_cons,List.map_nil,ql,xk,ug,uh,mP,uY,uZ,l7]
   have k3:=h
   with_reducible refine aA (fun hb=> ?_) (fun hb=> ?_)<;>have h:=hb<;>(try simp only[wf_preprocess] at h)<;>simp -implicitDefEqProofs (disch:=omega) only[go_sem,hb]<;>(repeat(with_reducible refine And.intro ?_ ?_;focus first|omega|rfl|assumption|exact⟨_,rfl,rfl⟩|(simp;omega)|(simp;done)))
   ·rw[if_pos ⟨by omega,by omega⟩] at hx;rw[hx];refine ay (fq _ n) ?_;simp -implicitDefEqProofs (disch:=omega) only[go_sem];rfl
   rw[if_neg (by omega),if_neg k3] at hx;rw[hx];refine ay (fq _ (n+1)) ?_;simp -implicitDefEqProofs (disch:=omega) only[go_sem];refine ay (mF x.fArgs (by omega) 0 (n+1+1) hf.2 hts.1 hall) ?_;simp -implicitDefEqProofs (disch:=omega) only[go_sem]
   have hl:(lx (x.fArgs.map eH) (n+1+1)).length=x.fArgs.length:=by rw[gL,List.length_map]
   have hr:=mQ (l:=x.fArgs.map eH) (n:=n+1+1)
   (repeat(with_reducible refine And.intro ?_ ?_;focus first|omega|rfl|assumption|exact⟨_,rfl,rfl⟩|(simp;omega)|(simp;done)))
   refine ay (yD _) ?_;simp -implicitDefEqProofs (disch:=omega) only[go_sem];simp only[eP,dN,List.cons_append,List.nil_append,ql,xk,ug,uh]
  ·have yE:=fun(i:Nat) (hi:i<xs.length)=>CK (l:=xs.map eH) (i:=i) (by rw[List.length_map];exact hi) q;intro S;refine lK (n) (rs:=[.tmp 2]) zmx func150 ntmps150 rfl rfl rfl rfl rfl ?_;simp -implicitDefEqProofs (disch:=omega) only[go_sem]
   (repeat(with_reducible refine And.intro ?_ ?_;focus first|omega|rfl|assumption|exact⟨_,rfl,rfl⟩|(simp;omega)|(simp;done)))
   refine qd n 3 2 [] (.inl rfl) (by simp) ?_
   refine bC (ι:=Nat) zmx rfl [3,7,8,9] (fun i=>[.c (.bL (0,1) (lx ((xs.map eH).take i) q)),.c (.d (.sl (xs.map ak.enc))),.c (.d (.i .i64 xs.length)),.c (.d (.i .i64 i))]) (fun i=>[.seed n,.dY n 2 (lx ((xs.map eH).take i) q)]::S)
    (fun i=>i<=xs.length) (fun i=>xs.length-i) 0 rfl rfl (Nat.zero_le _) ?_
   intro i hi;simp -implicitDefEqProofs (disch:=omega) only[go_sem]
   with_reducible refine aA (fun hb=> ?_) (fun hb=> ?_)<;>have h:=hb<;>(try simp only[wf_preprocess] at h)<;>simp -implicitDefEqProofs (disch:=omega) only[go_sem,hb]<;>(repeat(with_reducible refine And.intro ?_ ?_;focus first|omega|rfl|assumption|exact⟨_,rfl,rfl⟩|(simp;omega)|(simp;done)))
   ·have hi':i<xs.length:=by omega
    have hs:=yE i hi';rw[List.getElem_map] at hs
    have hl:(lx ((xs.map eH).take i) q).length<=i:=by rw[gL];exact List.length_take_le _ _
    (repeat(with_reducible refine And.intro ?_ ?_;focus first|omega|rfl|assumption|exact⟨_,rfl,rfl⟩|(simp;omega)|(simp;done)))
    refine ay (ih xs[i] (by have:=List.sizeOf_lt_of_mem (List.getElem_mem hi');omega) (q+gV ((xs.map eH).take i)) (r9.1 hf _ (List.getElem_mem hi')) (hsz _ (List.getElem_mem hi'))) ?_;simp -implicitDefEqProofs (disch:=omega) only[go_sem]
    (repeat(with_reducible refine And.intro ?_ ?_;focus first|omega|rfl|assumption|exact⟨_,rfl,rfl⟩|(simp;omega)|(simp;done)))
    rw[hs];exact dM 2 (by decide) (i+1) (by omega) rfl rfl rfl rfl (by omega)
   ·have hi':i=(xs.map eH).length:=by rw[List.length_map];omega
    rw[hi',List.take_length]
theorem yF(x:ak)(n:Nat)(hf:formed x=true)(hsz:x.sz<=4194304):aG prog 98 [x.v] (.agg [.d (.s (eH x).aM),.d (.ol n (lx (eH x).aj (n+1)))]):=(JK _).1 x (Nat.lt_succ_self _) n hf hsz
theorem iH(s:List UInt8):(bB s).enc=[.s s,.sl []]:=by rw[ah.aB];rfl
theorem ab9(l:List ah):(fu l).enc=[.s [],.sl (l.map ah.enc)]:=by rw[ah.aB];rfl
theorem nL{base l:List ah}{i:Nat}(hi:i<l.length):(base++l.take i).map ah.enc++[[.s l[i].aM,.sl (l[i].aj.map ah.enc)]]=(base++l.take (i+1)).map ah.enc:=by
 rw[List.take_succ_eq_append_getElem hi,<-List.append_assoc,List.map_append (l₂:=[l[i]]),List.map_cons,List.map_nil,ah.aB]
theorem K5(s:List UInt8)(es:List (List D)):Less (.agg [.d (.s s),.bE es]) (.agg [.d (.s s),.d (.sl es)]):=AR rfl fun j x y hx hy w σ S β v hv=>by
 match j,hx,hy with
 |0,hx,hy=>cases hx;cases hy;exact hv
 |1,hx,hy=>cases hx;cases hy;exact hv.1
 |j+2,hx,hy=>simp at hx
theorem K6(x:ah)(n:Nat):Less (.agg [.d (.s x.aM),.d (.ol n (lx x.aj (n+1)))]) x.v:=by
 have h:=zy (r:=x.enc) (n:=n);rw[mP,ah.ou] at h;exact h
theorem P8(s:List UInt8):aG prog 37 [.c (.d (.s s))] (.agg [.d (.s s),.bE []]):=fun S=>by
 refine zcx [.cell 2 39] func37 ntmps37 ?_;simp -implicitDefEqProofs (disch:=omega) only[go_sem]
theorem bW(s:List UInt8):aG prog 37 [.c (.d (.s s))] (.agg [.d (.s s),.d (.sl [])]):=aG.less (P8 s) (K5 s [])
theorem wF(es:List (List D))(hes:∀e∈es,e.length=2)(hl:es.length<=1073741824):aG prog 36 [.c (.d (.sl es))] (.agg [.d (.s []),.d (.sl es)]):=fun S=>by
 refine zcx [.cell 2 39] func36 ntmps36 ?_;simp -implicitDefEqProofs (disch:=omega) only[go_sem];exact⟨hes,⟨_,rfl,rfl⟩,(fun y hy=>by cases hy),hl⟩
theorem Er(xs:List (List UInt8))(hx:xs.length<=1073741824):aG prog 102 [.c (.d (.sl (xs.map encS)))] (.c (.d (.sl ((aU xs).map ah.enc)))):=fun S=>by
 refine zcx [.tmp 2] func102 ntmps102 ?_;simp -implicitDefEqProofs (disch:=omega) only[go_sem]
 (repeat(with_reducible refine And.intro ?_ ?_;focus first|omega|rfl|assumption|exact⟨_,rfl,rfl⟩|(simp;omega)|(simp;done)))
 refine uR 3 2 [] rfl (by simp) ?_
 refine bC (ι:=Nat) zmx rfl [0,3,4] (fun i=>[.c (.d (.sl (xs.map encS))),.c (.bL (0,0) (((aU xs).take i).map ah.enc)),.c (.d (.i .i64 i))]) (fun i=>[.tok 2 (((aU xs).take i).map ah.enc)]::S)
  (fun i=>i<=xs.length) (fun i=>xs.length-i) 0 rfl rfl (Nat.zero_le _) ?_
 intro i hi
 have hl:(((aU xs).take i).map ah.enc).length<=i:=by rw[List.length_map];exact List.length_take_le _ _
 simp -implicitDefEqProofs (disch:=omega) only[go_sem]
 with_reducible refine aA (fun hb=> ?_) (fun hb=> ?_)<;>have h:=hb<;>(try simp only[wf_preprocess] at h)<;>simp -implicitDefEqProofs (disch:=omega) only[go_sem,hb]<;>(repeat(with_reducible refine And.intro ?_ ?_;focus first|omega|rfl|assumption|exact⟨_,rfl,rfl⟩|(simp;omega)|(simp;done)))
 ·have hi':i<xs.length:=by omega
  have hs:=nL (base:=[]) (l:=aU xs) (i:=i) (by rw[lI];exact hi')
  have hg:(aU xs)[i]'(by rw[lI];exact hi')=bB xs[i]:=by simp[aU]
  rw[hg] at hs;simp only[List.nil_append,uY,uZ,List.map_nil] at hs
  (repeat(with_reducible refine And.intro ?_ ?_;focus first|omega|rfl|assumption|exact⟨_,rfl,rfl⟩|(simp;omega)|(simp;done)))
  refine ay (bW xs[i]) ?_;simp -implicitDefEqProofs (disch:=omega) only[go_sem]
  (repeat(with_reducible refine And.intro ?_ ?_;focus first|omega|rfl|assumption|exact⟨_,rfl,rfl⟩|(simp;omega)|(simp;done)))
  rw[hs];exact cO (i+1) (by omega) rfl rfl (by omega)
 ·have hi':i=(aU xs).length:=by rw[lI];omega
  rw[hi',List.take_length]
theorem JL(xs:List (List UInt8))(hx:xs.length<=1073741824):aG prog 40 [.c (.d (.sl (xs.map encS)))] (.agg [.d (.s []),.d (.sl ((aU xs).map ah.enc))]):=fun S=>by
 refine zcx [.cell 2 39] func40 ntmps40 ?_;simp -implicitDefEqProofs (disch:=omega) only[go_sem];refine ay (Er xs hx) ?_;simp -implicitDefEqProofs (disch:=omega) only[go_sem]
theorem JM:∀N:Nat,(∀x:ak,SizeOf.sizeOf x<N->x.sz<=4194304->aG prog 38 [x.v] (.agg [.d (.s (eH x).aM),.d (.sl ((eH x).aj.map ah.enc))]))
 |0=>fun x h=>by omega
 |N+1=>by
  have ih:=JM N;intro x hn hsz;have jl:=ak.iy x;have hts:=Aa hsz;have hx:=YS x
  have hall:∀t∈x.fArgs,t.sz<=4194304:=fun t ht=>by
   obtain⟨i,hi,e⟩:=List.getElem_of_mem ht;rw[<-e];exact(qO hi hsz).1
  intro S;refine zcx [.cell 2 39] func38 ntmps38 ?_;simp -implicitDefEqProofs (disch:=omega) only[go_sem]
  with_reducible refine aA (fun hb=> ?_) (fun hb=> ?_)<;>have h:=hb<;>(try simp only[wf_preprocess] at h)<;>simp -implicitDefEqProofs (disch:=omega) only[go_sem,hb]<;>(repeat(with_reducible refine And.intro ?_ ?_;focus first|omega|rfl|assumption|exact⟨_,rfl,rfl⟩|(simp;omega)|(simp;done)))
  ·rw[if_pos h] at hx;rw[hx]
   (repeat(with_reducible refine And.intro ?_ ?_;focus first|omega|rfl|assumption|exact⟨_,rfl,rfl⟩|(simp;omega)|(simp;done)))
   refine ay (bW _) ?_;simp -implicitDefEqProofs (disch:=omega) only[go_sem];rfl
  rw[if_neg h] at hx
  with_reducible refine aA (fun hb=> ?_) (fun hb=> ?_)<;>have h:=hb<;>(try simp only[wf_preprocess] at h)<;>simp -implicitDefEqProofs (disch:=omega) only[go_sem,hb]<;>(repeat(with_reducible refine And.intro ?_ ?_;focus first|omega|rfl|assumption|exact⟨_,rfl,rfl⟩|(simp;omega)|(simp;done)))
  ·rw[if_pos h] at hx;rw[hx];refine ay (bW _) ?_;simp -implicitDefEqProofs (disch:=omega) only[go_sem];refine ay (bW _) ?_;simp -implicitDefEqProofs (disch:=omega) only[go_sem];refine ay (wF _ (by simp) (by simp)) ?_;simp -implicitDefEqProofs (disch:=omega) only[go_sem];simp only[eP,dN,List.map_cons,List.map_nil,iH,CB]
  rw[if_neg h] at hx
  have ajg:x.aH=2->x.fArgs.length=0->eH x=bB x.fName:=fun a b=>by rw[hx,if_pos ⟨a,b⟩]
  have acd:¬(x.aH=2/\x.fArgs.length=0)->eH x=fu ((if x.aH=3 then [bB l7] else [])++[bB x.fName]++x.fArgs.map eH):=fun a=>by rw[hx,if_neg a]
  clear hx
  repeat' (first|(with_reducible refine aA (fun hb=> ?_) (fun hb=> ?_)<;>have h:=hb<;>(try simp only[wf_preprocess] at h)<;>simp -implicitDefEqProofs (disch:=omega) only[go_sem,hb]<;>(repeat(with_reducible refine And.intro ?_ ?_;focus first|omega|rfl|assumption|exact⟨_,rfl,rfl⟩|(simp;omega)|(simp;done)))))
  ·rw[ajg (by omega) (by omega)];refine ay (bW _) ?_;simp -implicitDefEqProofs (disch:=omega) only[go_sem];rfl
  ·exfalso;omega
  ·have hx:=acd (by omega);rw[if_neg h,List.nil_append] at hx;refine ay (bW _) ?_;simp -implicitDefEqProofs (disch:=omega) only[go_sem]
   (repeat(with_reducible refine And.intro ?_ ?_;focus first|omega|rfl|assumption|exact⟨_,rfl,rfl⟩|(simp;omega)|(simp;done)))
   refine bC (ι:=Nat) zmx rfl [1,2,3,4] (fun i=>[.c (.ptr (0,0) 0),.c (.ptr (0,1) 0),.c (.ptr (0,2) 0),.c (.d (.i .i64 i))])
    (fun i=>[.box [.d (.i .i64 x.aH),.d (.s x.fName),.d (.sl (x.fArgs.map ak.enc))],.box [.d (.s []),.bE []],.box [.d (.s []),.bL (0,3) (([bB x.fName]++(x.fArgs.map eH).take i).map ah.enc)],.tok 2 (([bB x.fName]++(x.fArgs.map eH).take i).map ah.enc)]::S)
    (fun i=>i<=x.fArgs.length) (fun i=>x.fArgs.length-i) 0 rfl ?_ (Nat.zero_le _) ?_
   ·simp only[List.take_zero,List.append_nil,List.map_cons,List.map_nil,List.cons_append,List.nil_append,iH]<;>(try rfl)
   intro i hi
   have hl:(([bB x.fName]++(x.fArgs.map eH).take i).map ah.enc).length<=i+2:=by
    rw[List.length_map,List.length_append];have:=List.length_take_le i (x.fArgs.map eH);simp only[List.length_cons,List.length_nil];omega
   have hs:=fun hi=>nL (base:=[bB x.fName]) (l:=x.fArgs.map eH) (i:=i) hi;have hrw:=jN (l:=[bB x.fName]++(x.fArgs.map eH).take i);generalize hR:([bB x.fName]++(x.fArgs.map eH).take i).map ah.enc=R at hl hs hrw;simp -implicitDefEqProofs (disch:=omega) only[go_sem]
   with_reducible refine aA (fun hb=> ?_) (fun hb=> ?_)<;>have h:=hb<;>(try simp only[wf_preprocess] at h)<;>simp -implicitDefEqProofs (disch:=omega) only[go_sem,hb]<;>(repeat(with_reducible refine And.intro ?_ ?_;focus first|omega|rfl|assumption|exact⟨_,rfl,rfl⟩|(simp;omega)|(simp;done)))
   ·have hi':i<x.fArgs.length:=by omega
    have hs':=hs (by rw[List.length_map];exact hi');rw[List.getElem_map] at hs'
    (repeat(with_reducible refine And.intro ?_ ?_;focus first|omega|rfl|assumption|exact⟨_,rfl,rfl⟩|(simp;omega)|(simp;done)))
    refine ay (ih x.fArgs[i] (by have:=List.sizeOf_lt_of_mem (List.getElem_mem hi');omega) (hall _ (List.getElem_mem hi'))) ?_;simp -implicitDefEqProofs (disch:=omega) only[go_sem]
    (repeat(with_reducible refine And.intro ?_ ?_;focus first|omega|rfl|assumption|exact⟨_,rfl,rfl⟩|(simp;omega)|(simp;done)))
    rw[hs'];exact cO (i+1) (by omega) rfl rfl (by omega)
   ·have hi':i=(x.fArgs.map eH).length:=by rw[List.length_map];omega
    rw[hx,<-hR,hi',List.take_length];simp only[eP,dN,List.cons_append,List.nil_append]
  ·have hx:=acd (by omega);rw[if_pos h] at hx;refine ay (bW _) ?_;simp -implicitDefEqProofs (disch:=omega) only[go_sem]
   (repeat(with_reducible refine And.intro ?_ ?_;focus first|omega|rfl|assumption|exact⟨_,rfl,rfl⟩|(simp;omega)|(simp;done)))
   refine ay (bW _) ?_;simp -implicitDefEqProofs (disch:=omega) only[go_sem]
   (repeat(with_reducible refine And.intro ?_ ?_;focus first|omega|rfl|assumption|exact⟨_,rfl,rfl⟩|(simp;omega)|(simp;done)))
   refine bC (ι:=Nat) zmx rfl [1,2,3,4] (fun i=>[.c (.ptr (0,0) 0),.c (.ptr (0,1) 0),.c (.ptr (0,2) 0),.c (.d (.i .i64 i))])
    (fun i=>[.box [.d (.i .i64 x.aH),.d (.s x.fName),.d (.sl (x.fArgs.map ak.enc))],.box [.d (.s []),.bE []],.box [.d (.s []),.bL (0,3) (([bB l7,bB x.fName]++(x.fArgs.map eH).take i).map ah.enc)],.tok 2 (([bB l7,bB x.fName]++(x.fArgs.map eH).take i).map ah.enc)]::S)
    (fun i=>i<=x.fArgs.length) (fun i=>x.fArgs.length-i) 0 rfl ?_ (Nat.zero_le _) ?_
   ·simp only[List.take_zero,List.append_nil,List.map_cons,List.map_nil,List.cons_append,List.nil_append,iH]<;>(try rfl)
   intro i hi
   have hl:(([bB l7,bB x.fName]++(x.fArgs.map eH).take i).map ah.enc).length<=i+2:=by
    rw[List.length_map,List.length_append];have:=List.length_take_le i (x.fArgs.map eH);simp only[List.length_cons,List.length_nil];omega
   have hs:=fun hi=>nL (base:=[bB l7,bB x.fName]) (l:=x.fArgs.map eH) (i:=i) hi;have hrw:=jN (l:=[bB l7,bB x.fName]++(x.fArgs.map eH).take i);generalize hR:([bB l7,bB x.fName]++(x.fArgs.map eH).take i).map ah.enc=R at hl hs hrw;simp -implicitDefEqProofs (disch:=omega) only[go_sem]
   with_reducible refine aA (fun hb=> ?_) (fun hb=> ?_)<;>have h:=hb<;>(try simp only[wf_preprocess] at h)<;>simp -implicitDefEqProofs (disch:=omega) only[go_sem,hb]<;>(repeat(with_reducible refine And.intro ?_ ?_;focus first|omega|rfl|assumption|exact⟨_,rfl,rfl⟩|(simp;omega)|(simp;done)))
   ·have hi':i<x.fArgs.length:=by omega
    have hs':=hs (by rw[List.length_map];exact hi');rw[List.getElem_map] at hs'
    (repeat(with_reducible refine And.intro ?_ ?_;focus first|omega|rfl|assumption|exact⟨_,rfl,rfl⟩|(simp;omega)|(simp;done)))
    refine ay (ih x.fArgs[i] (by have:=List.sizeOf_lt_of_mem (List.getElem_mem hi');omega) (hall _ (List.getElem_mem hi'))) ?_;simp -implicitDefEqProofs (disch:=omega) only[go_sem]
    (repeat(with_reducible refine And.intro ?_ ?_;focus first|omega|rfl|assumption|exact⟨_,rfl,rfl⟩|(simp;omega)|(simp;done)))
    rw[hs'];exact cO (i+1) (by omega) rfl rfl (by omega)
   ·have hi':i=(x.fArgs.map eH).length:=by rw[List.length_map];omega
    rw[hx,<-hR,hi',List.take_length];simp only[eP,dN,List.cons_append,List.nil_append]
  ·have hx:=acd (by omega);rw[if_neg h,List.nil_append] at hx;refine ay (bW _) ?_;simp -implicitDefEqProofs (disch:=omega) only[go_sem]
   (repeat(with_reducible refine And.intro ?_ ?_;focus first|omega|rfl|assumption|exact⟨_,rfl,rfl⟩|(simp;omega)|(simp;done)))
   refine bC (ι:=Nat) zmx rfl [1,2,3,4] (fun i=>[.c (.ptr (0,0) 0),.c (.ptr (0,1) 0),.c (.ptr (0,2) 0),.c (.d (.i .i64 i))])
    (fun i=>[.box [.d (.i .i64 x.aH),.d (.s x.fName),.d (.sl (x.fArgs.map ak.enc))],.box [.d (.s []),.bE []],.box [.d (.s []),.bL (0,3) (([bB x.fName]++(x.fArgs.map eH).take i).map ah.enc)],.tok 2 (([bB x.fName]++(x.fArgs.map eH).take i).map ah.enc)]::S)
    (fun i=>i<=x.fArgs.length) (fun i=>x.fArgs.length-i) 0 rfl ?_ (Nat.zero_le _) ?_
   ·simp only[List.take_zero,List.append_nil,List.map_cons,List.map_nil,List.cons_append,List.nil_append,iH]<;>(try rfl)
   intro i hi
   have hl:(([bB x.fName]++(x.fArgs.map eH).take i).map ah.enc).length<=i+2:=by
    rw[List.length_map,List.length_append];have:=List.length_take_le i (x.fArgs.map eH);simp only[List.length_cons,List.length_nil];omega
   have hs:=fun hi=>nL (base:=[bB x.fName]) (l:=x.fArgs.map eH) (i:=i) hi;have hrw:=jN (l:=[bB x.fName]++(x.fArgs.map eH).take i);generalize hR:([bB x.fName]++(x.fArgs.map eH).take i).map ah.enc=R at hl hs hrw;simp -implicitDefEqProofs (disch:=omega) only[go_sem]
   with_reducible refine aA (fun hb=> ?_) (fun hb=> ?_)<;>have h:=hb<;>(try simp only[wf_preprocess] at h)<;>simp -implicitDefEqProofs (disch:=omega) only[go_sem,hb]<;>(repeat(with_reducible refine And.intro ?_ ?_;focus first|omega|rfl|assumption|exact⟨_,rfl,rfl⟩|(simp;omega)|(simp;done)))
   ·have hi':i<x.fArgs.length:=by omega
    have hs':=hs (by rw[List.length_map];exact hi');rw[List.getElem_map] at hs'
    (repeat(with_reducible refine And.intro ?_ ?_;focus first|omega|rfl|assumption|exact⟨_,rfl,rfl⟩|(simp;omega)|(simp;done)))
    refine ay (ih x.fArgs[i] (by have:=List.sizeOf_lt_of_mem (List.getElem_mem hi');omega) (hall _ (List.getElem_mem hi'))) ?_;simp -implicitDefEqProofs (disch:=omega) only[go_sem]
    (repeat(with_reducible refine And.intro ?_ ?_;focus first|omega|rfl|assumption|exact⟨_,rfl,rfl⟩|(simp;omega)|(simp;done)))
    rw[hs'];exact cO (i+1) (by omega) rfl rfl (by omega)
   ·have hi':i=(x.fArgs.map eH).length:=by rw[List.length_map];omega
    rw[hx,<-hR,hi',List.take_length];simp only[eP,dN,List.cons_append,List.nil_append]
theorem Ah(x:ak)(hsz:x.sz<=4194304):aG prog 38 [x.v] (.agg [.d (.s (eH x).aM),.d (.sl ((eH x).aj.map ah.enc))]):=JM _ x (Nat.lt_succ_self _) hsz
theorem Y4(b:Bool)(x:ah)(hsz:x.sz<=67108864):aG prog 39 [.c (.d (.b b)),x.v] (vQ b x).v:=by
 have zero:aG prog 39 [.c (.d (.b b)),x.v] (.agg [.d (.s []),.bE []])->aG prog 39 [.c (.d (.b b)),x.v] eu.v:=fun h=>aG.less h (K5 [] [])
 cases b with
 |false=>
  refine zero fun S=> ?_;refine zcx [.cell 4 39] func39 ntmps39 ?_;simp -implicitDefEqProofs (disch:=omega) only[go_sem]
 |true=>
  show aG prog 39 [.c (.d (.b true)),x.v] (Gg x).v;unfold Gg
  cases hv:ig x with
  |false=>
   refine zero fun S=> ?_;refine zcx [.cell 4 39] func39 ntmps39 ?_;simp -implicitDefEqProofs (disch:=omega) only[go_sem];refine ay (xQ x hsz) ?_;simp -implicitDefEqProofs (disch:=omega) only[go_sem,hv]
  |true=>
   intro S;refine zcx [.cell 4 39] func39 ntmps39 ?_;simp -implicitDefEqProofs (disch:=omega) only[go_sem];refine ay (xQ x hsz) ?_;simp -implicitDefEqProofs (disch:=omega) only[go_sem,hv]
theorem V3(x:ah)(n:Nat)(hsz:x.sz<=67108864):aG prog 34 [.agg [.d (.s x.aM),.d (.ol n (lx x.aj (n+1)))]] (.agg [.d (.s (Gg x).aM),.d (.ol n (lx (Gg x).aj (n+1)))]):=by
 unfold Gg
 cases hv:ig x with
 |false=>
  refine aG.less (fun S=> ?_) (K4 [] n);refine zcx [.cell 2 39] func34 ntmps34 ?_;simp -implicitDefEqProofs (disch:=omega) only[go_sem];refine Em (xP x hsz) (.cons (K6 x n) .nil) ?_;simp -implicitDefEqProofs (disch:=omega) only[go_sem,hv]
 |true=>
  intro S;refine zcx [.cell 2 39] func34 ntmps34 ?_;simp -implicitDefEqProofs (disch:=omega) only[go_sem];refine Em (xP x hsz) (.cons (K6 x n) .nil) ?_;simp -implicitDefEqProofs (disch:=omega) only[go_sem,hv]
def wG:List UInt8:=[116,114,117,101]
def vg:List UInt8:=[102,97,108,115,101]
def lg:List UInt8:=[99,97,108,108]
def gu:List UInt8:=[109,101,116,104,111,100]
def nV:List UInt8:=[110,101,119]
def iP:List UInt8:=[99,97,115,101]
def nW:List UInt8:=[108,101,116]
def sj:List UInt8:=[105,102]
def lq:List UInt8:=[112,97,99,107]
def oH:List UInt8:=[116,104,101]
def fZ(k:Int)(tr nm:List UInt8)(ty:ak):List ah:=
 if k=4 then aU [lg,nm] else if k=5 then aU [gu,tr,nm] else if k=6 then aU [nV,nm] else if k=8 then aU [nW,nm] else
 if k=9 then aU [sj] else if k=10 then aU [nm] else if k=11 then aU [lq,tr] else if k=12 then [bB oH,eH ty] else aU [iP]
mutual
def eB:au->ah
 | .mk k tr nm n ty zs ms=>if k=1 then bB (Lib.itoa n) else if k=2 then bB (if n=1 then wG else vg) else if k=3 then bB nm else
   fu (fZ k tr nm ty++xS zs++(if k=4\/k=5\/k=6\/k=8\/k=9\/k=10\/k=11\/k=12 then [] else CO ms))
def xS:List au->List ah
 |[]=>[]
 |t::ts=>eB t::xS ts
def vD:aJ->ah
 | .mk c vs b=>fu ([bB c]++aU vs++[eB b])
def CO:List aJ->List ah
 |[]=>[]
 |t::ts=>vD t::CO ts
end
theorem zC:∀l,xS l=l.map eB
 |[]=>rfl
 |t::ts=>by rw[xS,List.map_cons,zC ts]
theorem CP:∀l,CO l=l.map vD
 |[]=>rfl
 |t::ts=>by rw[CO,List.map_cons,CP ts]
theorem Es(x:au):eB x=if x.aH=1 then bB (Lib.itoa x.fN) else if x.aH=2 then bB (if x.fN=1 then wG else vg) else if x.aH=3 then bB x.fName else
 fu (fZ x.aH x.aZ x.fName x.fType++x.fArgs.map eB++(if x.aH=4\/x.aH=5\/x.aH=6\/x.aH=8\/x.aH=9\/x.aH=10\/x.aH=11\/x.aH=12 then [] else x.aI.map vD)):=by
 cases x;rw[eB,zC,CP];rfl
theorem Y5(x:aJ):vD x=fu ([bB x.bO]++aU x.aW++[eB x.fBody]):=by cases x;rw[vD];rfl
def pW:List au->Nat
 |[]=>0
 |x::xs=>x.sz+pW xs
theorem Hg:∀l,bA (l.map au.enc)=pW l
 |[]=>rfl
 |x::xs=>by rw[List.map_cons,bA,pW,Hg xs];rfl
def xZ:List aJ->Nat
 |[]=>0
 |x::xs=>x.sz+xZ xs
theorem Hl:∀l,bA (l.map aJ.enc)=xZ l
 |[]=>rfl
 |x::xs=>by rw[List.map_cons,bA,xZ,Hl xs];rfl
theorem sP(x:au):x.sz=x.aZ.length+x.fName.length+x.fType.sz+(x.fArgs.length+pW x.fArgs)+(x.aI.length+xZ x.aI):=by
 rw[<-Hg,<-Hl];simp only[au.sz,au.aB,bG,bQ,D.sz,List.length_map,ak.bZ];omega
theorem xu(x:aJ):x.sz=x.bO.length+(x.aW.length+(x.aW.map List.length).sum)+x.fBody.sz:=by
 rw[<-qj];simp only[aJ.sz,aJ.aB,bG,bQ,D.sz,List.length_map,au.bZ];omega
theorem Bz:∀(k n:Nat),n<10^ (k+1)->(Lib.decDigits n).length<=k+1
 |0,n,h=>by rw[Lib.decDigits,dif_pos (by simpa using h)];simp
 |k+1,n,h=>by
  rw[Lib.decDigits];split
  ·simp
  ·rw[List.length_append];have:=Bz k (n/10) (by rw[Nat.pow_succ] at h;omega);simp;omega
theorem ace{n:Int}(h: -999999<=n/\n<=999999):(Lib.itoa n).length<=7:=by
 unfold Lib.itoa;split
 ·have:=Bz 5 n.natAbs (by omega);simp;omega
 ·have:=Bz 5 n.toNat (by omega);omega
theorem Y6(k:Int)(tr nm:List UInt8)(ty:ak):(fZ k tr nm ty).length<=3/\dz (fZ k tr nm ty)<=18+tr.length+nm.length+16*ty.sz:=by
 have h:=Ej ty;unfold fZ
 repeat' (first|(split;·refine⟨by simp[aU],?_⟩;simp[dz,aU,lS,lg,gu,nV,nW,sj,lq,oH,iP];omega))
 refine⟨by simp[aU],?_⟩;simp[dz,aU,lS,iP];omega
mutual
theorem P9:∀x:au,gI x=true->(eB x).sz<=24+32*x.sz
 | .mk k tr nm n ty zs ms=>fun hok=>by
   rw[gI,Bool.and_eq_true,Bool.and_eq_true] at hok;have hf:=iR hok.1;have h1:=Tp zs hok.2.1;have h2:=Tq ms hok.2.2;have h3:=Y6 k tr nm ty;rw[sP];simp only[au.fName,au.fArgs,au.aZ,au.fType,au.aI];rw[eB];split
   ·rename_i hk;have h4:=hf.2.2.2.1;simp only[au.aH,au.fN,hk,if_true] at h4;have:=ace h4;rw[lS];omega
   ·split
    ·rw[lS];split<;>simp[wG,vg]<;>omega
    ·split
     ·rw[lS];omega
     ·rw[tX,kY,kY,List.length_append,List.length_append,zC,List.length_map,<-zC];split
      ·simp[dz];omega
      ·rw[CP,List.length_map,<-CP];omega
theorem Tp:∀xs:List au,jo xs=true->dz (xS xs)<=24*xs.length+32*pW xs
 |[],_=>by simp[xS,dz]
 |x::xs,h=>by
  rw[jo,Bool.and_eq_true] at h;have h1:=P9 x h.1;have h2:=Tp xs h.2;rw[xS,dz,pW,List.length_cons];omega
theorem agb:∀x:aJ,rH x=true->(vD x).sz<=26+32*x.sz
 | .mk c vs b=>fun hok=>by
   rw[rH,Bool.and_eq_true,Bool.and_eq_true] at hok;have h1:=P9 b hok.2.2;rw[xu];simp only[aJ.bO,aJ.aW,aJ.fBody];rw[vD,tX,kY,kY,List.length_append,List.length_append,lI,Ei];simp[dz,lS];omega
theorem Tq:∀xs:List aJ,lG xs=true->dz (CO xs)<=26*xs.length+32*xZ xs
 |[],_=>by simp[CO,dz]
 |x::xs,h=>by
  rw[lG,Bool.and_eq_true] at h;have h1:=agb x h.1;have h2:=Tq xs h.2;rw[CO,dz,xZ,List.length_cons];omega
end
end Go.Ab
namespace Go.Proofs
open Go.Shelf
def Tryz.laysM171_ren:Go.Shelf.Ren:=⟨fun|171=>198|243=>225|246=>236|283=>244|284=>245|285=>246|286=>247|129=>254|317=>253|318=>255|319=>256|320=>257|337=>261|338=>262|n=>n,fun|3=>3|9=>9|2=>2|4=>4|171=>213|0=>0|53=>214|37=>22|5=>5|173=>217|212=>228|51=>229|20=>20|213=>230|46=>173|232=>239|233=>240|n=>n,fun|17=>2|18=>4|19=>5|n=>n⟩
theorem Tryz.laysM171:Go.Proofs.LaysM.n171 prog Tryz.laysM171_ren:={
 mixed:=by kernel_rfl
 f129:=func254.trans (congrArg some (by kernel_rfl))
 f171:=func198.trans (congrArg some (by kernel_rfl))
 f243:=func225.trans (congrArg some (by kernel_rfl))
 f246:=func236.trans (congrArg some (by kernel_rfl))
 f283:=func244.trans (congrArg some (by kernel_rfl))
 f284:=func245.trans (congrArg some (by kernel_rfl))
 f285:=func246.trans (congrArg some (by kernel_rfl))
 f286:=func247.trans (congrArg some (by kernel_rfl))
 f317:=func253.trans (congrArg some (by kernel_rfl))
 f318:=func255.trans (congrArg some (by kernel_rfl))
 f319:=func256.trans (congrArg some (by kernel_rfl))
 f320:=func257.trans (congrArg some (by kernel_rfl))
 f337:=func261.trans (congrArg some (by kernel_rfl))
 f338:=func262.trans (congrArg some (by kernel_rfl))
 t0:=underlying0
 a0:=Tryz.isAgg0
 z0:=Tryz.sizeOf0
 v0:=Tryz.zeroValue0
 t2:=underlying2
 a2:=Tryz.isAgg2
 z2:=Tryz.sizeOf2
 v2:=Tryz.zeroValue2
 t3:=underlying3
 a3:=Tryz.isAgg3
 z3:=Tryz.sizeOf3
 v3:=Tryz.zeroValue3
 t4:=underlying4
 a4:=Tryz.isAgg4
 z4:=Tryz.sizeOf4
 v4:=Tryz.zeroValue4
 t5:=underlying5
 a5:=Tryz.isAgg5
 z5:=Tryz.sizeOf5
 v5:=Tryz.zeroValue5
 t9:=underlying9
 a9:=Tryz.isAgg9
 z9:=Tryz.sizeOf9
 v9:=Tryz.zeroValue9
 t20:=underlying20
 a20:=Tryz.isAgg20
 z20:=Tryz.sizeOf20
 v20:=Tryz.zeroValue20
 t37:=underlying22
 a37:=Tryz.isAgg22
 z37:=Tryz.sizeOf22
 v37:=Tryz.zeroValue22
 t46:=underlying173
 a46:=Tryz.isAgg173
 z46:=Tryz.sizeOf173
 v46:=Tryz.zeroValue173
 t51:=underlying229
 a51:=Tryz.isAgg229
 z51:=Tryz.sizeOf229
 v51:=Tryz.zeroValue229
 t53:=underlying214
 a53:=Tryz.isAgg214
 z53:=Tryz.sizeOf214
 v53:=Tryz.zeroValue214
 t171:=underlying213
 a171:=Tryz.isAgg213
 z171:=Tryz.sizeOf213
 v171:=Tryz.zeroValue213
 t173:=underlying217
 a173:=Tryz.isAgg217
 z173:=Tryz.sizeOf217
 v173:=Tryz.zeroValue217
 t212:=underlying228
 a212:=Tryz.isAgg228
 z212:=Tryz.sizeOf228
 v212:=Tryz.zeroValue228
 t213:=underlying230
 a213:=Tryz.isAgg230
 z213:=Tryz.sizeOf230
 t232:=underlying239
 a232:=Tryz.isAgg239
 z232:=Tryz.sizeOf239
 v232:=Tryz.zeroValue239
 t233:=underlying240
 a233:=Tryz.isAgg240
 z233:=Tryz.sizeOf240
 v233:=Tryz.zeroValue240
 g17:=by kernel_rfl
 g18:=by kernel_rfl
 g19:=by kernel_rfl
 i0:=by kernel_rfl
 i2:=by kernel_rfl
 i3:=by kernel_rfl
 i4:=by kernel_rfl
 i5:=by kernel_rfl
 i9:=by kernel_rfl
 i20:=by kernel_rfl
 i37:=by kernel_rfl
 i46:=by kernel_rfl
 i51:=by kernel_rfl
 i53:=by kernel_rfl
 i171:=by kernel_rfl
 i173:=by kernel_rfl
 i212:=by kernel_rfl
 i232:=by kernel_rfl
 i233:=by kernel_rfl
 m17:=by kernel_rfl
 m18:=by kernel_rfl
 m19:=by kernel_rfl}
open Go.RowKit Go.Sort Go.Lib in
theorem Tryz.strconv_Itoa(n:Int)(h0: -9223372036854775808<=n)(h1:n<=9223372036854775807)(w:World)(htab:Lib.TabIs prog w "internal/strconv.uint64pow10" .u64 Lib.pow10Tab):
 Calls prog 198 #[.int .i64 n] w fun e w'=>e=.returned (.string ⟨(Lib.itoa n).toArray⟩)/\∃k os,w'=grow (w.drewN k) os:=Any.strconv_Itoa Tryz.laysM171 n h0 h1 w htab
end Go.Proofs
namespace Go.Ab
theorem V4{w:World}{σ:Nat->Nat}{k:Nat}{os:Array Go.Obj}(hl:∀b,b<w.heap.size\/σ b=0):Grow w σ (Go.Sort.grow (w.drewN k) os) σ:=by
 have hh:(Go.Sort.grow (w.drewN k) os).heap=w.heap++os:=rfl;refine⟨by rw[hh];simp,rfl,rfl,fun b hb=>⟨by rw[hh,Array.getElem?_append_left hb],rfl⟩,fun b=> ?_⟩;rcases hl b with h|h
 ·left;rw[hh];simp;omega
 ·exact .inr h
theorem aey{x:V}{vs:List Value}{w:World}{σ:Nat->Nat}{S:Store}{β:Hs}(h:ni w σ S β [x] vs):∃v,vs=[v]/\bT w σ S β x v:=by
 obtain⟨hl,h⟩:=h;obtain⟨v,e,hr⟩:=h 0 x rfl
 match vs,hl,e with
 |[y],_,e=>simp at e;subst e;exact⟨_,rfl,hr⟩
theorem Mf{w:World}{σ:Nat->Nat}(h:Ar w σ):Lib.TabIs prog w "internal/strconv.uint64pow10" .u64 Lib.pow10Tab:=by
 obtain⟨c,t,fz,q1,q2,q3⟩:=h _ _ (show _∈SC from List.mem_cons_self ..)
 have hn:prog.globalNamed "internal/strconv.uint64pow10" =some 2:=by kernel_rfl
 unfold Lib.TabIs World.var?;rw[hn];simp only[Option.bind_some,q1,Option.some.injEq];apply Array.ext';rw[q2];simp[Lib.pow10Tab]
theorem aez(n:Int)(h0: -9223372036854775808<=n)(h1:n<=9223372036854775807):aG prog 198 [.c (.d (.i .i64 n))] (.c (.d (.s (Lib.itoa n)))):=fun S=>by
 refine⟨⟨_,func198,by kernel_rfl,by kernel_rfl⟩,fun w σ β vs hS hv=> ?_⟩;obtain⟨v,rfl,hr,_⟩:=aey hv
 have hv0:v=.int .i64 n:=by cases hr;rfl
 subst hv0;refine(Tryz.strconv_Itoa n h0 h1 w (Mf hS.qo)).mono fun e w' ⟨he,k,os,hw⟩=> ?_;subst hw;have hg:Grow w σ (Go.Sort.grow (w.drewN k) os) σ:=V4 hS.live;exact⟨_,.c (.d (.s (Lib.itoa n))),S,σ,β,he,hS.grow hg,Keep.refl _ _,Step.lN hg,⟨.s _,rfl⟩,rfl,rfl⟩
theorem Ho(n:Int)(h0: -9223372036854775808<=n)(h1:n<=9223372036854775807):aG prog 167 [.c (.d (.i .i64 n))] (.c (.d (.s (Lib.itoa n)))):=fun S=>by
 refine zcx [.tmp 2] func167 ntmps167 ?_;simp -implicitDefEqProofs (disch:=omega) only[go_sem];refine ay (aez n h0 h1) ?_;simp -implicitDefEqProofs (disch:=omega) only[go_sem]<;>(repeat(with_reducible refine And.intro ?_ ?_;focus first|omega|rfl|assumption|exact⟨_,rfl,rfl⟩|(simp;omega)|(simp;done)))
end Go.Ab