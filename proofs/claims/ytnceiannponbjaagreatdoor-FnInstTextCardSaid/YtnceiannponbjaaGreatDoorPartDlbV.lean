/-
  SEVERAL TEXTS IN ONE (merged by program): contracts and models, each with its own heading.
-/
import Derived.Test.YtnceiannponbjaaGreatDoorPartDlbI
import Derived.Test.YtnceiannponbjaaGreatDoorPartDlbK
import Derived.Test.YtnceiannponbjaaGreatDoorPartDlbQ
import Derived.Lib.Atoi
set_option maxHeartbeats 8000000
open Go.Proofs Go.Proofs.Tryz
set_option linter.unusedSimpArgs false
set_option linter.unusedVariables false
set_option maxRecDepth 4000
namespace Go.Ab
def dA(l:List ah)(i:Nat):List UInt8:=(l.getD i eH).aU
theorem mX{l:List ah}{i:Nat}(h:i<l.length):dA l i=l[i].aU:=by simp[dA,List.getD,h]
theorem CG{l:List ah}{i:Nat}(h:l.length<=i):dA l i=[]:=by simp[dA,List.getD,h];rfl
def jr(l:List ah):List (List UInt8):=if l.all (fun x=>decide (x.aU≠[]))=true then l.map ah.aU else []
theorem Ar:∀{vs:List (List UInt8)},(∀v∈vs,v≠[])->jr (aR vs)=vs:=fun {vs} h=>by
 unfold jr aR;rw[if_pos (List.all_eq_true.2 fun x hx=> ?_),List.map_map]
 ·conv=>rhs;rw[<-List.map_id vs]
  rfl
 ·obtain⟨v,hv,rfl⟩:=List.mem_map.1 hx;exact decide_eq_true (h v hv)
theorem Q6:∀l:List ah,((l.map ah.aU).map List.length).sum<=dJ l
 |[]=>by simp[dJ]
 |x::l=>by
  have:=Q6 l;rw[List.map_cons,List.map_cons,List.sum_cons,dJ,iB];omega
theorem FJ(l:List ah):(jr l).length<=l.length/\((jr l).map List.length).sum<=dJ l:=by
 unfold jr;split
 ·refine⟨by simp,?_⟩;exact Q6 l
 ·simp
mutual
def eB(b:Bool):ah->au
 | .mk a l=>if a=[] then
    if l.length<2 then .mk 0 [] []
    else if dA l 0=Dy/\(b=true\/l.length=2/\dA l 1≠[]) then .mk 4 (dA l 1) []
    else if dA l 0=nA/\(b=true\/l.length=3/\dA l 1≠[]) then .mk 3 (dA l 1) ((nH b l).drop 2)
    else .mk 2 (dA l 0) ((nH b l).drop 1)
   else if a.head? =some 39 then .mk 1 a.tail [] else .mk 2 a []
def nH(b:Bool):List ah->List au
 |[]=>[]
 |x::xs=>eB b x::nH b xs
end
theorem FK(b:Bool):∀l,nH b l=l.map (eB b)
 |[]=>rfl
 |t::ts=>by rw[nH,List.map_cons,FK b ts]
theorem Uo(b:Bool)(x:ah):eB b x=if x.aU=[] then
 if x.aj.length<2 then .mk 0 [] []
 else if dA x.aj 0=Dy/\(b=true\/x.aj.length=2/\dA x.aj 1≠[]) then .mk 4 (dA x.aj 1) []
 else if dA x.aj 0=nA/\(b=true\/x.aj.length=3/\dA x.aj 1≠[]) then .mk 3 (dA x.aj 1) ((x.aj.map (eB b)).drop 2)
 else .mk 2 (dA x.aj 0) ((x.aj.map (eB b)).drop 1)
 else if x.aU.head? =some 39 then .mk 1 x.aU.tail [] else .mk 2 x.aU []:=by
 cases x;rw[eB,FK];rfl
theorem KT:∀a b,sJ (a++b)=sJ a+sJ b
 |[],b=>by simp[sJ]
 |x::a,b=>by rw[List.cons_append,sJ,sJ,KT a b];omega
theorem Q7(l:List au)(i:Nat):sJ (l.drop i)<=sJ l:=by
 have:=KT (l.take i) (l.drop i);rw[List.take_append_drop] at this;omega
theorem ZW(l:List ah)(i:Nat):(dA l i).length<=dJ l:=by
 by_cases h:i<l.length
 ·rw[mX h];have h1:=jP (List.getElem_mem h);rw[iB] at h1;omega
 ·rw[CG (by omega)];simp
mutual
theorem CJ(b:Bool):∀x:ah,(eB b x).sz<=x.sz
 | .mk a l=>by
   have h1:=IW b l;have h2:=Q7 (nH b l) 2;have h3:=Q7 (nH b l) 1;have h4:=ZW l 0;have h5:=ZW l 1
   have h6:(nH b l).length=l.length:=by rw[FK,List.length_map]
   rw[iB,jE];simp only[ah.aU,ah.aj];rw[eB];split
   ·split
    ·rw[sK];simp[au.fName,au.fArgs,sJ]
    ·split
     ·rw[sK];simp[au.fName,au.fArgs,sJ];omega
     ·have g0:=FL b l 0;have g1:=FL b l 1;simp only[Nat.zero_add,Nat.reduceAdd] at g0 g1;split
      ·rw[sK];simp only[au.fName,au.fArgs,List.length_drop,h6];omega
      ·rw[sK];simp only[au.fName,au.fArgs,List.length_drop,h6];omega
   ·split
    ·rw[sK];simp[au.fName,au.fArgs,sJ];omega
    ·rw[sK];simp[au.fName,au.fArgs,sJ]
theorem IW(b:Bool):∀l:List ah,sJ (nH b l)<=dJ l
 |[]=>by simp[nH,sJ]
 |x::xs=>by
  have h1:=CJ b x;have h2:=IW b xs;rw[nH,sJ,dJ];omega
theorem FL(b:Bool):∀(l:List ah)(i:Nat),sJ ((nH b l).drop (i+1))+(dA l i).length<=dJ l
 |[],i=>by simp[nH,sJ,CG]
 |x::xs,0=>by
  have h2:=IW b xs;rw[nH,List.drop_succ_cons,List.drop_zero,dJ,show dA (x::xs) 0=x.aU from rfl,iB];omega
 |x::xs,i+1=>by
  have h2:=FL b xs i;rw[nH,List.drop_succ_cons,dJ,show dA (x::xs) (i+1)=dA xs i from rfl];omega
end
theorem CK{s:List UInt8}(h:validName s=true):s≠[]:=fun e=>by rw[e] at h;have:=gF h;simp at this
theorem ZX{s:List UInt8}(h:validName s=true):s.head? ≠some 39:=fun e=>by
 have h1:=gF h;have h2:=h1.2.2 0 (by omega)
 cases s with
 |nil=>cases e
 |cons c s=>
  simp only[List.head?_cons,Option.some.injEq] at e;subst e;simp[lowerB,oL] at h2
theorem adf{s:List UInt8}(h:validName s=true):s≠Dy/\s≠nA:=by
 have h1:=(gF h).2.1;refine⟨fun e=>h1 (by rw[e];simp[reserved,Dy]),fun e=>h1 (by rw[e];simp[reserved,nA])⟩
mutual
theorem CO(b:Bool):∀t:au,formed t=true->eB b (dK t)=t
 | .mk k n zs=>fun hf=>by
   rw[formed,Bool.and_eq_true] at hf;have hfi:=gF hf.1;have hzs:=Q8 b zs hf.2;rw[dK];by_cases h1:k=1
   ·have hz:zs=[]:=by
     have:zs.length=0:=by omega
     exact List.eq_nil_of_length_eq_zero this
    rw[if_pos h1,bH,eB,if_neg (by simp),if_pos (by simp),hz,h1];rfl
   rw[if_neg h1];by_cases h4:k=4
   ·have hz:zs=[]:=by
     have:zs.length=0:=by omega
     exact List.eq_nil_of_length_eq_zero this
    have hn:validName n=true:=by
     rcases hfi with h|h|h
     ·exact h.2.1
     ·exact h.2.1
     ·omega
    rw[if_pos h4,bS,eB,if_pos rfl,if_neg (by simp),if_pos ⟨rfl,.inr ⟨rfl,CK hn⟩⟩,hz,h4];rfl
   rw[if_neg h4];by_cases h2:k=2/\zs.length=0
   ·have hz:zs=[]:=List.eq_nil_of_length_eq_zero h2.2
    have hn:n≠[]/\n.head? ≠some 39:=by
     rcases hfi with h|h|h
     ·omega
     ·omega
     ·rcases h.2 with g|g
      ·exact⟨CK g.1,ZX g.1⟩
      ·rcases gF g.1 with e|e<;>rw[e]<;>simp
    rw[if_pos h2,bH,eB,if_neg hn.1,if_neg hn.2,hz,h2.1]
   rw[if_neg h2];by_cases h3:k=3
   ·have hz:zs.length=1/\validName n=true:=by
     rcases hfi with h|h|h
     ·omega
     ·exact⟨h.2.2,h.2.1⟩
     ·omega
    rw[if_pos h3,bS,eB,if_pos rfl,if_neg (by simp),if_neg (fun h=>by have:=h.1;simp[dA,bH,ah.aU,Dy,nA] at this),if_pos ⟨rfl,.inr ⟨by rw[wX];simp[hz.1],CK hz.2⟩⟩];show au.mk 3 n (nH b (Ai zs))=_;rw[hzs,h3]
   ·have hn:validName n=true/\zs≠[]:=by
     rcases hfi with h|h|h
     ·omega
     ·omega
     ·rcases h.2 with g|g
      ·exact⟨g.1,fun e=>h2 ⟨h.1,by rw[e];rfl⟩⟩
      ·exact(h2 ⟨h.1,g.2⟩).elim
    have hk:k=2:=by
     rcases hfi with h|h|h
     ·omega
     ·omega
     ·exact h.1
    have hd:=adf hn.1;rw[if_neg h3,bS,eB,if_pos rfl,if_neg (by rw[wX];cases zs with|nil=>exact(hn.2 rfl).elim|cons z zs=>simp),if_neg (fun h=>hd.1 h.1),if_neg (fun h=>hd.2 h.1)];show au.mk 2 n (nH b (Ai zs))=_;rw[hzs,hk]
theorem Q8(b:Bool):∀ts:List au,ji ts=true->nH b (Ai ts)=ts
 |[],_=>rfl
 |t::ts,h=>by
  rw[ji,Bool.and_eq_true] at h;rw[Ai,nH,CO b t h.1,Q8 b ts h.2]
end
theorem L6{vs:List (List UInt8)}(h:jN vs=true):∀v∈vs,v≠[]:=fun v hv=>by
 unfold jN at h;rw[Bool.and_eq_true] at h;exact CK (List.all_eq_true.1 h.2 v hv)
theorem IX:eH.sz=0:=by rw[iB];simp[eH,ah.aU,ah.aj,bB]
theorem adg{b:Bool}{s x:ah}(h:wm b s=x)(hx:x.aj≠[]):b=true/\s=x/\iE x=true:=by
 cases b with
 |false=>rw[<-h] at hx;exact(hx rfl).elim
 |true=>
  rw[wm] at h;unfold Bc at h;split at h
  ·rename_i hv;exact⟨rfl,h,by rw[<-h];exact hv⟩
  ·rw[<-h] at hx;exact(hx rfl).elim
theorem H7(d:Nat)(h:d<10):Lib.digitVal (UInt8.ofNat (48+d))=some d:=by
 have:(UInt8.ofNat (48+d)).toNat=48+d:=by rw[UInt8.toNat_ofNat'];omega
 unfold Lib.digitVal;rw[this,if_pos (by omega)];congr 1;omega
theorem Au:∀(l:List UInt8)(acc:Nat)(b:UInt8),Lib.decFrom acc (l++[b])=(Lib.decFrom acc l).bind fun m=>(Lib.digitVal b).map fun d=>m*10+d
 |[],acc,b=>by
  rw[List.nil_append,Lib.decFrom,Lib.decFrom];cases Lib.digitVal b<;>rfl
 |a::l,acc,b=>by
  rw[List.cons_append,Lib.decFrom,Lib.decFrom]
  cases Lib.digitVal a with
  |none=>rfl
  |some e=>exact Au l _ b
theorem xk(n:Nat):Lib.decFrom 0 (Lib.decDigits n)=some n:=by
 induction n using Nat.strongRecOn with
 |_ n ih=>
  rw[Lib.decDigits];split
  ·rename_i h;rw[Lib.decFrom,H7 n h];simp[Lib.decFrom]
  ·rename_i h;rw[Au,ih (n/10) (by omega),H7 _ (Nat.mod_lt _ (by decide))];simp only[Option.bind_some,Option.map_some,Option.some.injEq];omega
theorem xu(n:Nat):∃b r,Lib.decDigits n=b::r/\48<=b.toNat/\b.toNat<=57:=by
 induction n using Nat.strongRecOn with
 |_ n ih=>
  rw[Lib.decDigits];split
  ·rename_i h;exact⟨_,_,rfl,by rw[UInt8.toNat_ofNat'];omega,by rw[UInt8.toNat_ofNat'];omega⟩
  ·rename_i h;obtain⟨b,r,e,h1,h2⟩:=ih (n/10) (by omega);rw[e];exact⟨b,r++_,rfl,h1,h2⟩
theorem Eh(n:Nat):Lib.decNat (Lib.decDigits n)=some n:=by
 obtain⟨b,r,e,_⟩:=xu n;unfold Lib.decNat;rw[show(Lib.decDigits n).isEmpty=false from by rw[e];rfl];exact xk n
theorem FM(b:UInt8)(r:List UInt8):Lib.atoi (b::r)=if b==45 then(Lib.decNat r).map fun(m:Nat)=> -(m:Int) else if b==43 then(Lib.decNat r).map fun(m:Nat)=>(m:Int) else(Lib.decNat (b::r)).map fun(m:Nat)=>(m:Int):=rfl
theorem Nj(n:Int):Lib.atoi (Lib.itoa n)=some n:=by
 unfold Lib.itoa;split
 ·rename_i h;show Lib.atoi (45::Lib.decDigits n.natAbs)=_;rw[FM,if_pos (by decide),Eh];simp only[Option.map_some,Option.some.injEq];omega
 ·rename_i h;obtain⟨b,r,e,h1,h2⟩:=xu n.toNat;have hd:=Eh n.toNat;rw[e] at hd ⊢;rw[FM,if_neg (by simp only[beq_iff_eq];intro h;rw[h] at h1;revert h1;decide),if_neg (by simp only[beq_iff_eq];intro h;rw[h] at h1;revert h1;decide),hd];simp only[Option.map_some,Option.some.injEq];omega
theorem afk(n:Int):Lib.itoa n≠[]:=fun e=>by
 have:=Nj n;rw[e] at this;cases this
def fK(s:List UInt8):Option Int:=match Lib.atoi s with
 |some n=>if(-999999999999<=n/\n<=999999999999)/\Lib.itoa n=s then some n else none
 |none=>none
theorem KU{n:Int}(h: -999999999999<=n/\n<=999999999999):fK (Lib.itoa n)=some n:=by
 unfold fK;rw[Nj];exact if_pos ⟨h,rfl⟩
theorem KV{s:List UInt8}{n:Int}(h:fK s=some n):(-999999999999<=n/\n<=999999999999)/\Lib.itoa n=s:=by
 unfold fK at h;split at h
 ·split at h
  ·cases h;assumption
  ·cases h
 ·cases h
theorem Av{b:UInt8}{r:List UInt8}(h:lowerB b):fK (b::r)=none:=by
 have h1:(b==45)=false:=by simp only[beq_eq_false_iff_ne];intro e;rw[e] at h;revert h;simp[lowerB]
 have h2:(b==43)=false:=by simp only[beq_eq_false_iff_ne];intro e;rw[e] at h;revert h;simp[lowerB]
 have h3:Lib.digitVal b=none:=if_neg (fun x=>by unfold lowerB at h;omega);unfold fK;rw[FM,h1,h2];simp[Lib.decNat,Lib.decFrom,h3]
theorem Xl{s:List UInt8}(h:validName s=true):fK s=none:=by
 have h1:=gF h;have h2:=h1.2.2 0 (by omega)
 cases s with
 |nil=>simp at h1
 |cons b r=>
  rcases h2 with h2|h2
  ·exact Av h2
  ·exact(h2.1 rfl).elim
def ig:au:=.mk 0 [] []
def qX:aC:=.mk 0 [] [] 0 ig [] []
mutual
def dU(b:Bool):ah->aC
 | .mk a l=>if a=[] then
    if b=true/\(l.length<2\/dA l 0=gP/\l.length<3) then qX
    else if dA l 0=mF then .mk 4 [] (dA l 1) 0 ig ((eT b l).drop 2) []
    else if dA l 0=pE then .mk 6 [] (dA l 1) 0 ig ((eT b l).drop 2) []
    else if dA l 0=pF then .mk 8 [] (dA l 1) 0 ig ((eT b l).drop 2) []
    else if dA l 0=mG then .mk 11 (dA l 1) [] 0 ig ((eT b l).drop 2) []
    else if dA l 0=gP then .mk 5 (dA l 1) (dA l 2) 0 ig ((eT b l).drop 3) []
    else if dA l 0=um then .mk 9 [] [] 0 ig ((eT b l).drop 1) []
    else if dA l 0=qd then .mk 12 [] [] 0 (eB b (l.getD 1 eH)) ((eT b l).drop 2) []
    else if dA l 0=jl then .mk 7 [] [] 0 ig (((eT b l).drop 1).take 1) ((lI b l).drop 2)
    else .mk 10 [] (dA l 0) 0 ig ((eT b l).drop 1) []
   else match fK a with
    |some n=>.mk 1 [] [] n ig [] []
    |none=>if a=xM then .mk 2 [] [] 1 ig [] [] else if a=wC then .mk 2 [] [] 0 ig [] [] else .mk 3 [] a 0 ig [] []
def eT(b:Bool):List ah->List aC
 |[]=>[]
 |x::xs=>dU b x::eT b xs
def nX(b:Bool):ah->aP
 | .mk a l=>if l.length<2 then .mk [] [] qX else .mk (dA l 0) (jr ((l.drop 1).dropLast)) ((eT b l).getLastD qX)
def lI(b:Bool):List ah->List aP
 |[]=>[]
 |x::xs=>nX b x::lI b xs
end
theorem yF(b:Bool):∀l,eT b l=l.map (dU b)
 |[]=>rfl
 |t::ts=>by rw[eT,List.map_cons,yF b ts]
theorem Bl(b:Bool):∀l,lI b l=l.map (nX b)
 |[]=>rfl
 |t::ts=>by rw[lI,List.map_cons,Bl b ts]
theorem jX(b:Bool)(l m:List ah):eT b (l++m)=eT b l++eT b m:=by simp only[yF,List.map_append]
theorem nY(b:Bool)(l m:List ah):lI b (l++m)=lI b l++lI b m:=by simp only[Bl,List.map_append]
theorem oq{t:au}(h:uq t):t=ig:=au.ext h.1 h.2.1 (List.eq_nil_of_length_eq_zero h.2.2)
theorem Tg{s:List UInt8}(h:s∈ops):s≠[]/\∀w∈[mF,pE,pF,mG,gP,um,qd,jl],s≠w:=by
 have:=Zi h;refine⟨fun e=>by rw[e] at this;simp at this,fun w hw e=> ?_⟩;rw[e] at this;simp only[List.mem_cons,List.not_mem_nil,or_false] at hw;rcases hw with g|g|g|g|g|g|g|g<;>rw[g] at this<;>revert this<;>decide
mutual
theorem L8(b:Bool):∀e:aC,gU e=true->dU b (dX e)=e
 | .mk k tr nm n ty zs ms=>fun hok=>by
   rw[gU,Bool.and_eq_true,Bool.and_eq_true] at hok;have hf:=gF hok.1;have h1:=Q9 b zs hok.2.1;have h2:=Ra b ms hok.2.2;obtain⟨p0,p1,p2,p3,p4,p5,p6⟩:=hf;simp only[aC.aI,aC.bg,aC.fName,aC.fN,aC.fType,aC.fArgs,aC.aO] at p0 p1 p2 p3 p4 p5 p6;have nz:∀{l:List aC},l.length=0->l=[]:=fun h=>List.eq_nil_of_length_eq_zero h
   have FN:k≠7->ms=[]:=fun h=>List.eq_nil_of_length_eq_zero (by
    have:¬0<ms.length:=fun x=>h (p6.2 x)
    omega)
   have hk:k=1\/k=2\/k=3\/k=4\/k=5\/k=6\/k=7\/k=8\/k=9\/k=10\/k=11\/k=12:=by omega
   rcases hk with rfl|rfl|rfl|rfl|rfl|rfl|rfl|rfl|rfl|rfl|rfl|rfl
   all_goals simp only[if_true,if_false,true_or,or_true,false_or,or_false,or_self,(by decide:(1:Int)=5<->False),Int.reduceEq] at p1 p2 p3 p4 p5
   ·have e1:=oq p4;have e2:=nz p5;have e3:=FN (by decide);subst e1 e2 e3 p1 p2;rw[dX,if_pos rfl,bH,dU,if_neg (afk n),KU (by omega)]
   ·have e1:=oq p4;have e2:=nz p5;have e3:=FN (by decide);subst e1 e2 e3 p1 p2;rw[dX,if_neg (by decide),if_pos rfl,bH,dU];rcases p3 with rfl|rfl
    ·rw[if_neg (by decide:¬(0:Int)=1),if_neg (by decide),show fK wC=none from Av (by simp[lowerB]),if_neg (by decide),if_pos rfl]
    ·rw[if_pos rfl,if_neg (by decide),show fK xM=none from Av (by simp[lowerB]),if_pos rfl]
   ·have e1:=oq p4;have e2:=nz p5;have e3:=FN (by decide);subst e1 e2 e3 p1 p3;have hr:=(gF p2).2.1;rw[dX,if_neg (by decide),if_neg (by decide),if_pos rfl,bH,dU,if_neg (CK p2),Xl p2,if_neg (fun e=>hr (by rw[e];simp[reserved,xM])),if_neg (fun e=>hr (by rw[e];simp[reserved,wC]))]
   all_goals have hz:(yS zs).length=zs.length:=by rw[Ao,List.length_map]
   ·have e1:=oq p4;have e3:=FN (by decide);subst e1 e3 p1 p3;simp[dX,gM,bS,aR,dU,eT,jX,lI,nY,dA,bH,ah.aU,mF,gP,pE,jl,pF,um,mG,qd,h1,hz,h2]
    all_goals (intros;omega)
   ·have e1:=oq p4;have e3:=FN (by decide);subst e1 e3 p3;simp[dX,gM,bS,aR,dU,eT,jX,lI,nY,dA,bH,ah.aU,mF,gP,pE,jl,pF,um,mG,qd,h1,hz,h2]
    all_goals (intros;omega)
   ·have e1:=oq p4;have e3:=FN (by decide);subst e1 e3 p1 p3;simp[dX,gM,bS,aR,dU,eT,jX,lI,nY,dA,bH,ah.aU,mF,gP,pE,jl,pF,um,mG,qd,h1,hz,h2]
    all_goals (intros;omega)
   ·have e1:=oq p4;subst e1 p1 p2 p3;have hm:0<ms.length:=p6.1 rfl
    obtain⟨z,rfl⟩:∃z,zs=[z]:=by
     cases zs with
     |nil=>simp at p5
     |cons z t=>cases t with
      |nil=>exact⟨z,rfl⟩
      |cons _ _=>simp at p5
    simp only[yS,eT,List.cons.injEq,and_true] at h1;simp[dX,gM,bS,aR,dU,eT,jX,lI,nY,yS,dA,bH,ah.aU,mF,gP,pE,jl,pF,um,mG,qd,h1,h2]
    all_goals (intros;omega)
   ·have e1:=oq p4;have e3:=FN (by decide);subst e1 e3 p1 p3;simp[dX,gM,bS,aR,dU,eT,jX,lI,nY,dA,bH,ah.aU,mF,gP,pE,jl,pF,um,mG,qd,h1,hz,h2]
    all_goals (intros;omega)
   ·have e1:=oq p4;have e3:=FN (by decide);subst e1 e3 p1 p2 p3;simp[dX,gM,bS,aR,dU,eT,jX,lI,nY,dA,bH,ah.aU,mF,gP,pE,jl,pF,um,mG,qd,h1,hz,h2]
    all_goals (intros;omega)
   ·have e1:=oq p4;have e3:=FN (by decide);subst e1 e3 p1 p3;have ho:=Tg p2;simp only[List.mem_cons,List.not_mem_nil,or_false,ne_eq,forall_eq_or_imp,forall_eq] at ho;obtain⟨_,o1,o2,o3,o4,o5,o6,o7,o8⟩:=ho;simp[dX,gM,bS,aR,dU,eT,jX,dA,bH,ah.aU,h1,hz,o1,o2,o3,o4,o5,o6,o7,o8]
    all_goals (intros;omega)
   ·have e1:=oq p4;have e3:=FN (by decide);subst e1 e3 p2 p3;simp[dX,gM,bS,aR,dU,eT,jX,lI,nY,dA,bH,ah.aU,mF,gP,pE,jl,pF,um,mG,qd,h1,hz,h2]
    all_goals (intros;omega)
   ·have e3:=FN (by decide);subst e3 p1 p2 p3;have ht:=CO b ty (wh p4);simp[dX,gM,bS,aR,dU,eT,jX,dA,bH,ah.aU,mF,gP,pE,jl,pF,um,mG,qd,h1,hz,ht]
    all_goals (intros;omega)
theorem Q9(b:Bool):∀es:List aC,jO es=true->eT b (yS es)=es
 |[],_=>rfl
 |t::ts,h=>by
  rw[jO,Bool.and_eq_true] at h;rw[yS,eT,L8 b t h.1,Q9 b ts h.2]
theorem afl(b:Bool):∀m:aP,tC m=true->nX b (wK m)=m
 | .mk c vs e=>fun h=>by
   rw[tC,Bool.and_eq_true,Bool.and_eq_true] at h;have he:=L8 b e h.2.2;rw[wK,bS,nX,if_neg (by simp),jX];have e1:dA ([bH c]++aR vs++[dX e]) 0=c:=rfl
   have e2:(([bH c]++aR vs++[dX e]).drop 1).dropLast=aR vs:=by
    rw[List.append_assoc,List.singleton_append,List.drop_succ_cons,List.drop_zero,List.dropLast_concat]
   rw[e1,e2,Ar (L6 h.2.1)];congr 1;rw[eT,he,List.getLastD_eq_getLast?,List.getLast?_append];simp[eT]
theorem Ra(b:Bool):∀ms:List aP,mK ms=true->lI b (DI ms)=ms
 |[],_=>rfl
 |t::ts,h=>by
  rw[mK,Bool.and_eq_true] at h;rw[DI,lI,afl b t h.1,Ra b ts h.2]
end
theorem Aw:ig.sz=0:=by rw[sK];rfl
theorem Bn:qX.sz=0:=by rw[uK];simp[qX,aC.bg,aC.fName,aC.fType,aC.fArgs,aC.aO,Aw,qV,yY]
theorem Xm(l:List ah):((jr ((l.drop 1).dropLast)).length+((jr ((l.drop 1).dropLast)).map List.length).sum)<=(l.drop 1).dropLast.length+dJ ((l.drop 1).dropLast):=by
 have:=FJ ((l.drop 1).dropLast);omega
theorem afm(x:ah)(m:List ah)(y:ah):dJ (x::(m++[y]))=x.sz+(dJ m+y.sz):=by rw[dJ,lq];simp[dJ]
mutual
theorem Gy(b:Bool):∀x:ah,(dU b x).sz<=x.sz
 | .mk a l=>by
   have g:=Nk b l
   have hl:(eT b l).length=l.length:=by rw[yF,List.length_map]
   have hm:(lI b l).length=l.length:=by rw[Bl,List.length_map]
   rw[iB,jE];simp only[ah.aU,ah.aj];rw[dU];split
   ·have g1:qV ((eT b l).drop 1)+(dA l 0).length<=dJ l:=by
     have:=g 0;simp only[Nat.zero_add,(by decide:¬(1<=0)),if_false] at this;omega
    have g2:qV ((eT b l).drop 2)+((dA l 0).length+(dA l 1).length)<=dJ l:=by
     have:=g 1;simp only[Nat.reduceAdd,Nat.le_refl,if_true,Nat.sub_self] at this;omega
    have g3:qV ((eT b l).drop 3)+((dA l 1).length+(dA l 2).length)<=dJ l:=by
     have:=g 2;simp only[Nat.reduceAdd,(by decide:1<=2),if_true,Nat.reduceSub] at this;omega
    split
    ·rw[Bn];omega
    ·repeat' split
     all_goals rw[uK];simp only[aC.bg,aC.fName,aC.fType,aC.fArgs,aC.aO,Aw,qV,yY,List.length_nil,List.length_drop,List.length_take,hl,hm,List.drop_zero] at g1 g2 g3 ⊢
     all_goals try omega
     ·have h1:=CJ b (l.getD 1 eH)
      have h2:qV ((eT b l).drop 2)+(l.getD 1 eH).sz<=dJ l:=by
       match l with
       |[]=>simp[eT,qV,dJ,IX]
       |[x]=>simp[eT,qV,dJ,IX]
       |x::y::l=>
        have:=IY b l;simp only[eT,List.drop_succ_cons,List.drop_zero,dJ];show _+y.sz<=_;omega
      omega
     ·match l with
      |[]=>simp[qV,yY,eT,lI]
      |[x]=>simp[qV,yY,eT,lI]
      |x::y::l=>
       have h1:=Gy b y;have h2:=Rb b l;simp only[eT,lI,List.drop_succ_cons,List.drop_zero,List.take_succ_cons,List.take_zero,qV,dJ,List.length_cons];omega
   ·split
    ·rw[uK];simp[aC.bg,aC.fName,aC.fType,aC.fArgs,aC.aO,Aw,qV,yY]
    ·repeat' split
     all_goals rw[uK];simp[aC.bg,aC.fName,aC.fType,aC.fArgs,aC.aO,Aw,qV,yY]
theorem IY(b:Bool):∀l:List ah,qV (eT b l)<=dJ l
 |[]=>by simp[eT,qV]
 |x::xs=>by
  have h1:=Gy b x;have h2:=IY b xs;rw[eT,qV,dJ];omega
theorem Nk(b:Bool):∀(l:List ah)(i:Nat),qV ((eT b l).drop (i+1))+((if 1<=i then(dA l (i-1)).length else 0)+(dA l i).length)<=dJ l
 |[],i=>by simp[eT,qV,CG]
 |x::xs,0=>by
  have h2:=IY b xs;rw[eT,List.drop_succ_cons,List.drop_zero,dJ,show dA (x::xs) 0=x.aU from rfl,iB];simp;omega
 |x::xs,i+1=>by
  have h2:=Nk b xs i;rw[eT,List.drop_succ_cons,dJ,show dA (x::xs) (i+1)=dA xs i from rfl]
  cases i with
  |zero=>rw[show dA (x::xs) (0+1-1)=x.aU from rfl,iB];simp at h2 ⊢;omega
  |succ i=>rw[show dA (x::xs) (i+1+1-1)=dA xs i from rfl];simp at h2 ⊢;omega
theorem afn(b:Bool):∀x:ah,(nX b x).sz<=x.sz
 | .mk a l=>by
   rw[iB,jE];simp only[ah.aU,ah.aj];rw[nX];split
   ·rw[yB];simp[aP.bU,aP.aK,aP.fBody,Bn]
   ·rename_i h;have hn:=Xm l;have hb:=KW b l;rw[yB];simp only[aP.bU,aP.aK,aP.fBody]
    obtain⟨x,m,y,rfl⟩:∃x m y,l=x::(m++[y]):=by
     cases l with
     |nil=>simp at h
     |cons x l=>
      have hl:l≠[]:=fun e=>by rw[e] at h;simp at h
      exact⟨x,l.dropLast,l.getLast hl,by rw[List.dropLast_concat_getLast]⟩
    rw[afm] at *
    rw[show dA (x::(m++[y])) 0=x.aU from rfl,iB x];simp only[List.drop_succ_cons,List.drop_zero,List.dropLast_concat,List.length_cons,List.length_append,List.length_nil] at hn ⊢
    have hy:((x::(m++[y])).getLastD eH)=y:=by rw[<-List.cons_append,List.getLastD_eq_getLast?,List.getLast?_append];simp
    rw[hy] at hb;omega
theorem Rb(b:Bool):∀l:List ah,yY (lI b l)<=dJ l
 |[]=>by simp[lI,yY]
 |x::xs=>by
  have h1:=afn b x;have h2:=Rb b xs;rw[lI,yY,dJ];omega
theorem KW(b:Bool):∀l:List ah,((eT b l).getLastD qX).sz<=(l.getLastD eH).sz
 |[]=>by simp[eT,Bn]
 |[x]=>by simpa [eT] using Gy b x
 |x::y::l=>by
  have:=KW b (y::l);simpa [eT] using this
end
def wF(s:List UInt8):Prop:=s.head? =some 45
instance (s:List UInt8):Decidable (wF s):=inferInstanceAs (Decidable (_=_))
def eD(s:List UInt8):List UInt8:=if wF s then s.tail else s
theorem yG:∀(l:List UInt8)(acc v:Nat),Lib.decFrom acc l=some v->∀b∈l,48<=b.toNat/\b.toNat<=57
 |[],_,_,_,b,hb=>by cases hb
 |a::l,acc,v,h,b,hb=>by
  rw[Lib.decFrom] at h
  cases hd:Lib.digitVal a with
  |none=>rw[hd] at h;cases h
  |some d=>
   rw[hd] at h;rcases List.mem_cons.1 hb with rfl|hb
   ·unfold Lib.digitVal at hd;split at hd
    ·assumption
    ·cases hd
   ·exact yG l _ v h b hb
theorem Ti{b:UInt8}(h:48<=b.toNat/\b.toNat<=57):Lib.digitVal b=some (b.toNat-48):=if_pos h
theorem decFrom_take{t:List UInt8}{i acc:Nat}(hi:i<t.length)(h:Lib.decFrom 0 (t.take i)=some acc)(hd:48<=t[i].toNat/\t[i].toNat<=57):Lib.decFrom 0 (t.take (i+1))=some (acc*10+(t[i].toNat-48)):=by
 rw[List.take_succ_eq_append_getElem hi,Au,h,Ti hd];rfl
theorem FP{s:List UInt8}{m:Int}(h:fK s=some m):(wF s<->m<0)/\eD s=Lib.decDigits m.natAbs/\1<=(eD s).length/\(eD s).length<=12:=by
 obtain⟨hr,he⟩:=KV h;have hl:(Lib.decDigits m.natAbs).length<=12:=Cw 11 _ (by omega);obtain⟨b,r,e,b1,b2⟩:=xu m.natAbs
 have hl1:1<=(Lib.decDigits m.natAbs).length:=by rw[e];simp
 unfold Lib.itoa at he;by_cases hn:m<0
 ·rw[if_pos hn] at he
  have hs:wF s:=by rw[<-he];rfl
  have hb:eD s=Lib.decDigits m.natAbs:=by unfold eD;rw[if_pos hs,<-he];rfl
  exact⟨⟨fun _=>hn,fun _=>hs⟩,hb,by rw[hb];exact⟨hl1,hl⟩⟩
 ·rw[if_neg hn,show m.toNat=m.natAbs by omega] at he
  have hs:¬wF s:=fun x=>by
   rw[<-he,e] at x;unfold wF at x;simp only[List.head?_cons,Option.some.injEq] at x;rw[x] at b1;revert b1;decide
  have hb:eD s=Lib.decDigits m.natAbs:=by unfold eD;rw[if_neg hs,<-he]
  exact⟨⟨fun x=>(hs x).elim,fun x=>(hn x).elim⟩,hb,by rw[hb];exact⟨hl1,hl⟩⟩
theorem uo{s:List UInt8}(h:(eD s).length<1\/12<(eD s).length):fK s=none:=by
 cases hr:fK s with
 |none=>rfl
 |some m=>have:=(FP hr).2.2;omega
theorem Bo{s:List UInt8}{i:Nat}(hi:i<(eD s).length)(h:¬(48<=(eD s)[i].toNat/\(eD s)[i].toNat<=57)):fK s=none:=by
 cases hr:fK s with
 |none=>rfl
 |some m=>
  have hk:=(FP hr).2.1;have hd:=xk m.natAbs;rw[<-hk] at hd;exact absurd (yG _ _ _ hd _ (List.getElem_mem hi)) h
theorem Nl{s:List UInt8}{v:Nat}(hv:Lib.decFrom 0 (eD s)=some v)(hb:v<=999999999999):fK s=if Lib.itoa (if wF s then -(v:Int) else v)=s then some (if wF s then -(v:Int) else v) else none:=by
 obtain⟨z,hz⟩:∃z,z=(if wF s then -(v:Int) else v):=⟨_,rfl⟩
 have hzb: -999999999999<=z/\z<=999999999999:=by rw[hz];split<;>omega
 rw[<-hz];by_cases h:Lib.itoa z=s
 ·rw[if_pos h]
  conv=>lhs;rw[<-h]
  exact KU hzb
 ·rw[if_neg h]
  cases hr:fK s with
  |none=>rfl
  |some m=>
   have hk:=FP hr;have hd:=xk m.natAbs;rw[<-hk.2.1,hv] at hd
   have hm:v=m.natAbs:=by simpa using hd
   have:z=m:=by
    rw[hz];by_cases hn:wF s
    ·have:=hk.1.1 hn;rw[if_pos hn];omega
    ·rw[if_neg hn];have:¬m<0:=fun x=>hn (hk.1.2 x);omega
   rw[this] at h;exact absurd (KV hr).2 h
theorem Tj(s:List UInt8)(hs:s.length<=1073741824):aJ prog 187 [.c (.d (.s s)),.c (.d (.i .i64 12))] (.eU [(false,[.d (.i .i64 ((fK s).getD 0))]),(false,[.d (.b (fK s).isSome)])]):=fun S=>by
 have d0:fK s=none->V.eU [(false,[.d (.i .i64 0)]),(false,[.d (.b false)])]=.eU [(false,[.d (.i .i64 ((fK s).getD 0))]),(false,[.d (.b (fK s).isSome)])]:=fun e=>by rw[e];rfl
 refine zcx [.tmp 4,.tmp 5] func187 ntmps187 ?_;simp -implicitDefEqProofs (disch:=omega) only[go_sem]
 with_reducible refine aD (fun hb=> ?_) (fun hb=> ?_)<;>have h:=hb<;>(try simp only[wf_preprocess] at h)<;>simp -implicitDefEqProofs (disch:=omega) only[go_sem,hb]<;>(repeat(with_reducible refine And.intro ?_ ?_;focus first|omega|rfl|assumption|exact⟨_,rfl,rfl⟩|(simp;omega)|(simp;done)))
 ·have hpos:0<s.length:=by omega
  have h0:(s.getD 0 0).toNat=45<->wF s:=by
   cases s with
   |nil=>simp at hpos
   |cons b s=>
    unfold wF;simp only[List.getD_cons_zero,List.head?_cons,Option.some.injEq];constructor
    ·intro e;exact UInt8.toNat.inj e
    ·intro e;rw[e];rfl
  (repeat(with_reducible refine And.intro ?_ ?_;focus first|omega|rfl|assumption|exact⟨_,rfl,rfl⟩|(simp;omega)|(simp;done)))
  with_reducible refine aD (fun hb=> ?_) (fun hb=> ?_)<;>have h:=hb<;>(try simp only[wf_preprocess] at h)<;>simp -implicitDefEqProofs (disch:=omega) only[go_sem,hb]<;>(repeat(with_reducible refine And.intro ?_ ?_;focus first|omega|rfl|assumption|exact⟨_,rfl,rfl⟩|(simp;omega)|(simp;done)))
  ·have hn:wF s:=h0.1 (by omega)
   have hb:eD s=(s.take s.length).drop 1:=by unfold eD;rw[if_pos hn,List.take_length,List.drop_one]
   (repeat(with_reducible refine And.intro ?_ ?_;focus first|omega|rfl|assumption|exact⟨_,rfl,rfl⟩|(simp;omega)|(simp;done)))
   rw[<-hb]
   have hbl:(eD s).length<=s.length:=by rw[hb];simp
   with_reducible refine aD (fun hb=> ?_) (fun hb=> ?_)<;>have h:=hb<;>(try simp only[wf_preprocess] at h)<;>simp -implicitDefEqProofs (disch:=omega) only[go_sem,hb]<;>(repeat(with_reducible refine And.intro ?_ ?_;focus first|omega|rfl|assumption|exact⟨_,rfl,rfl⟩|(simp;omega)|(simp;done)))
   ·exact d0 (uo (by omega))
   with_reducible refine aD (fun hb=> ?_) (fun hb=> ?_)<;>have h:=hb<;>(try simp only[wf_preprocess] at h)<;>simp -implicitDefEqProofs (disch:=omega) only[go_sem,hb]<;>(repeat(with_reducible refine And.intro ?_ ?_;focus first|omega|rfl|assumption|exact⟨_,rfl,rfl⟩|(simp;omega)|(simp;done)))
   ·exact d0 (uo (by omega))
   have hl1:1<=(eD s).length:=by omega
   have hl12:(eD s).length<=12:=by omega
   refine bF (ι:=Nat×Nat) zmx rfl [0,6,7,8,9] (fun y=>[.c (.d (.s s)),.c (.d (.b true)),.c (.d (.s (eD s))),.c (.d (.i .i64 y.2)),.c (.d (.i .i64 y.1))]) (fun _=>[]::S)
    (fun y=>y.1<=(eD s).length/\Lib.decFrom 0 ((eD s).take y.1)=some y.2/\y.2<10^y.1) (fun y=>(eD s).length-y.1) (0,0) rfl rfl ⟨Nat.zero_le _,rfl,by decide⟩ ?_
   rintro⟨i,acc⟩ ⟨p1,p2,p3⟩;simp only at p1 p2 p3;have p4:10^i<=10^12:=Nat.pow_le_pow_right (by decide) (by omega);simp -implicitDefEqProofs (disch:=omega) only[go_sem]
   with_reducible refine aD (fun hb=> ?_) (fun hb=> ?_)<;>have h:=hb<;>(try simp only[wf_preprocess] at h)<;>simp -implicitDefEqProofs (disch:=omega) only[go_sem,hb]<;>(repeat(with_reducible refine And.intro ?_ ?_;focus first|omega|rfl|assumption|exact⟨_,rfl,rfl⟩|(simp;omega)|(simp;done)))
   ·have hi:i<(eD s).length:=by omega
    have e:(eD s).getD i 0=(eD s)[i]:=by simp[List.getD,hi]
    have hbb:=(eD s)[i].toNat_lt
    (repeat(with_reducible refine And.intro ?_ ?_;focus first|omega|rfl|assumption|exact⟨_,rfl,rfl⟩|(simp;omega)|(simp;done)))
    simp only[e]
    with_reducible refine aD (fun hb=> ?_) (fun hb=> ?_)<;>have h:=hb<;>(try simp only[wf_preprocess] at h)<;>simp -implicitDefEqProofs (disch:=omega) only[go_sem,hb]<;>(repeat(with_reducible refine And.intro ?_ ?_;focus first|omega|rfl|assumption|exact⟨_,rfl,rfl⟩|(simp;omega)|(simp;done)))
    ·exact d0 (Bo hi (by omega))
    (repeat(with_reducible refine And.intro ?_ ?_;focus first|omega|rfl|assumption|exact⟨_,rfl,rfl⟩|(simp;omega)|(simp;done)))
    simp only[e]
    with_reducible refine aD (fun hb=> ?_) (fun hb=> ?_)<;>have h:=hb<;>(try simp only[wf_preprocess] at h)<;>simp -implicitDefEqProofs (disch:=omega) only[go_sem,hb]<;>(repeat(with_reducible refine And.intro ?_ ?_;focus first|omega|rfl|assumption|exact⟨_,rfl,rfl⟩|(simp;omega)|(simp;done)))
    ·exact d0 (Bo hi (by omega))
    have hdg:48<=(eD s)[i].toNat/\(eD s)[i].toNat<=57:=by omega
    have ht:=decFrom_take hi p2 hdg
    have e2:(10:Int)*acc+(((eD s)[i].toNat:Int)-48)=((acc*10+((eD s)[i].toNat-48):Nat):Int):=by omega
    (repeat(with_reducible refine And.intro ?_ ?_;focus first|omega|rfl|assumption|exact⟨_,rfl,rfl⟩|(simp;omega)|(simp;done)))
    simp -implicitDefEqProofs (disch:=omega) only[go_sem,wrap_u8,e];rw[e2];exact dG (i+1,acc*10+((eD s)[i].toNat-48)) (by simp only;omega) rfl rfl ⟨by simp only;omega,ht,by simp only[Nat.pow_succ];omega⟩
   ·have hi:i=(eD s).length:=by omega
    have hv:Lib.decFrom 0 (eD s)=some acc:=by rw[hi,List.take_length] at p2;exact p2
    have D5:=Nl hv (by omega);rw[if_pos hn] at D5;rw[show(0:Int)-acc= -(acc:Int) by omega];refine aA (uL (-(acc:Int)) (by omega) (by omega)) ?_;simp -implicitDefEqProofs (disch:=omega) only[go_sem]
    with_reducible refine aD (fun hb=> ?_) (fun hb=> ?_)<;>have h:=hb<;>(try simp only[wf_preprocess] at h)<;>simp -implicitDefEqProofs (disch:=omega) only[go_sem,hb]<;>(repeat(with_reducible refine And.intro ?_ ?_;focus first|omega|rfl|assumption|exact⟨_,rfl,rfl⟩|(simp;omega)|(simp;done)))
    ·exact d0 (D5.trans (if_neg h))
    ·rw[D5.trans (if_pos h)];rfl
  ·have hn:¬wF s:=fun x=>h (by rw[h0.2 x];rfl)
   have hbs:eD s=s:=by unfold eD;rw[if_neg hn]
   have hbl:(eD s).length=s.length:=by rw[hbs]
   with_reducible refine aD (fun hb=> ?_) (fun hb=> ?_)<;>have h:=hb<;>(try simp only[wf_preprocess] at h)<;>simp -implicitDefEqProofs (disch:=omega) only[go_sem,hb]<;>(repeat(with_reducible refine And.intro ?_ ?_;focus first|omega|rfl|assumption|exact⟨_,rfl,rfl⟩|(simp;omega)|(simp;done)))
   ·exact d0 (uo (by omega))
   with_reducible refine aD (fun hb=> ?_) (fun hb=> ?_)<;>have h:=hb<;>(try simp only[wf_preprocess] at h)<;>simp -implicitDefEqProofs (disch:=omega) only[go_sem,hb]<;>(repeat(with_reducible refine And.intro ?_ ?_;focus first|omega|rfl|assumption|exact⟨_,rfl,rfl⟩|(simp;omega)|(simp;done)))
   ·exact d0 (uo (by omega))
   have hl1:1<=(eD s).length:=by omega
   have hl12:(eD s).length<=12:=by omega
   refine bF (ι:=Nat×Nat) zmx rfl [0,6,7,8,9] (fun y=>[.c (.d (.s s)),.c (.d (.b false)),.c (.d (.s (eD s))),.c (.d (.i .i64 y.2)),.c (.d (.i .i64 y.1))]) (fun _=>[]::S)
    (fun y=>y.1<=(eD s).length/\Lib.decFrom 0 ((eD s).take y.1)=some y.2/\y.2<10^y.1) (fun y=>(eD s).length-y.1) (0,0) (by rw[hbs];rfl) rfl ⟨Nat.zero_le _,rfl,by decide⟩ ?_
   rintro⟨i,acc⟩ ⟨p1,p2,p3⟩;simp only at p1 p2 p3;have p4:10^i<=10^12:=Nat.pow_le_pow_right (by decide) (by omega);simp -implicitDefEqProofs (disch:=omega) only[go_sem]
   with_reducible refine aD (fun hb=> ?_) (fun hb=> ?_)<;>have h:=hb<;>(try simp only[wf_preprocess] at h)<;>simp -implicitDefEqProofs (disch:=omega) only[go_sem,hb]<;>(repeat(with_reducible refine And.intro ?_ ?_;focus first|omega|rfl|assumption|exact⟨_,rfl,rfl⟩|(simp;omega)|(simp;done)))
   ·have hi:i<(eD s).length:=by omega
    have e:(eD s).getD i 0=(eD s)[i]:=by simp[List.getD,hi]
    have hbb:=(eD s)[i].toNat_lt
    (repeat(with_reducible refine And.intro ?_ ?_;focus first|omega|rfl|assumption|exact⟨_,rfl,rfl⟩|(simp;omega)|(simp;done)))
    simp only[e]
    with_reducible refine aD (fun hb=> ?_) (fun hb=> ?_)<;>have h:=hb<;>(try simp only[wf_preprocess] at h)<;>simp -implicitDefEqProofs (disch:=omega) only[go_sem,hb]<;>(repeat(with_reducible refine And.intro ?_ ?_;focus first|omega|rfl|assumption|exact⟨_,rfl,rfl⟩|(simp;omega)|(simp;done)))
    ·exact d0 (Bo hi (by omega))
    (repeat(with_reducible refine And.intro ?_ ?_;focus first|omega|rfl|assumption|exact⟨_,rfl,rfl⟩|(simp;omega)|(simp;done)))
    simp only[e]
    with_reducible refine aD (fun hb=> ?_) (fun hb=> ?_)<;>have h:=hb<;>(try simp only[wf_preprocess] at h)<;>simp -implicitDefEqProofs (disch:=omega) only[go_sem,hb]<;>(repeat(with_reducible refine And.intro ?_ ?_;focus first|omega|rfl|assumption|exact⟨_,rfl,rfl⟩|(simp;omega)|(simp;done)))
    ·exact d0 (Bo hi (by omega))
    have hdg:48<=(eD s)[i].toNat/\(eD s)[i].toNat<=57:=by omega
    have ht:=decFrom_take hi p2 hdg
    have e2:(10:Int)*acc+(((eD s)[i].toNat:Int)-48)=((acc*10+((eD s)[i].toNat-48):Nat):Int):=by omega
    (repeat(with_reducible refine And.intro ?_ ?_;focus first|omega|rfl|assumption|exact⟨_,rfl,rfl⟩|(simp;omega)|(simp;done)))
    simp -implicitDefEqProofs (disch:=omega) only[go_sem,wrap_u8,e];rw[e2];exact dG (i+1,acc*10+((eD s)[i].toNat-48)) (by simp only;omega) rfl rfl ⟨by simp only;omega,ht,by simp only[Nat.pow_succ];omega⟩
   ·have hi:i=(eD s).length:=by omega
    have hv:Lib.decFrom 0 (eD s)=some acc:=by rw[hi,List.take_length] at p2;exact p2
    have D5:=Nl hv (by omega);rw[if_neg hn] at D5;refine aA (uL ((acc:Int)) (by omega) (by omega)) ?_;simp -implicitDefEqProofs (disch:=omega) only[go_sem]
    with_reducible refine aD (fun hb=> ?_) (fun hb=> ?_)<;>have h:=hb<;>(try simp only[wf_preprocess] at h)<;>simp -implicitDefEqProofs (disch:=omega) only[go_sem,hb]<;>(repeat(with_reducible refine And.intro ?_ ?_;focus first|omega|rfl|assumption|exact⟨_,rfl,rfl⟩|(simp;omega)|(simp;done)))
    ·exact d0 (D5.trans (if_neg h))
    ·rw[D5.trans (if_pos h)];rfl
 ·have hs0:s=[]:=List.eq_nil_of_length_eq_zero (by omega)
  have hb0:(eD s).length=0:=by rw[hs0];rfl
  with_reducible refine aD (fun hb=> ?_) (fun hb=> ?_)<;>have h:=hb<;>(try simp only[wf_preprocess] at h)<;>simp -implicitDefEqProofs (disch:=omega) only[go_sem,hb]<;>(repeat(with_reducible refine And.intro ?_ ?_;focus first|omega|rfl|assumption|exact⟨_,rfl,rfl⟩|(simp;omega)|(simp;done)))
  ·exact d0 (uo (by omega))
  ·omega
theorem KX(s:List UInt8)(hs:s.length<=1073741824):aJ prog 141 [.c (.d (.s s))] (.eU [(false,[.d (.i .i64 ((fK s).getD 0))]),(false,[.d (.b (fK s).isSome)])]):=fun S=>by
 refine zcx [.tmp 2,.tmp 3] func141 ntmps141 ?_;simp -implicitDefEqProofs (disch:=omega) only[go_sem];refine aA (Tj s hs) ?_;simp -implicitDefEqProofs (disch:=omega) only[go_sem]<;>(repeat(with_reducible refine And.intro ?_ ?_;focus first|omega|rfl|assumption|exact⟨_,rfl,rfl⟩|(simp;omega)|(simp;done)))
theorem ZY{x:ah}{i:Nat}(hi:i<x.aj.length)(h:x.sz<=4194304):x.aj[i].sz<=4194304:=by
 have:=jP (List.getElem_mem hi);rw[iB,jE] at h;omega
theorem Z0{x:ah}(h:x.sz<=4194304):x.aU.length<=4194304/\x.aj.length<=4194304:=by
 rw[iB] at h;omega
theorem yH:∀n:Nat,∀x:ah,SizeOf.sizeOf x<n->∀y:ah,x.sz<=4194304->aJ prog 9 [x.v,y.v] (.c (.d (.b (dec (x=y)))))
 |0=>fun x h=>by omega
 |n+1=>by
  have ih:=yH n;intro x hn y hsz S;have ais:=ah.pW x;have hb:=Z0 hsz;refine zcx [.tmp 4] func9 ntmps9 ?_;simp -implicitDefEqProofs (disch:=omega) only[go_sem]
  with_reducible refine aD (fun hb=> ?_) (fun hb=> ?_)<;>have h:=hb<;>(try simp only[wf_preprocess] at h)<;>simp -implicitDefEqProofs (disch:=omega) only[go_sem,hb]<;>(repeat(with_reducible refine And.intro ?_ ?_;focus first|omega|rfl|assumption|exact⟨_,rfl,rfl⟩|(simp;omega)|(simp;done)))
  ·exact aY (bI (fun e=>h (by rw[e]))).symm
  have h1:=h
  with_reducible refine aD (fun hb=> ?_) (fun hb=> ?_)<;>have h:=hb<;>(try simp only[wf_preprocess] at h)<;>simp -implicitDefEqProofs (disch:=omega) only[go_sem,hb]<;>(repeat(with_reducible refine And.intro ?_ ?_;focus first|omega|rfl|assumption|exact⟨_,rfl,rfl⟩|(simp;omega)|(simp;done)))
  ·exact aY (bI (fun e=>h (by rw[e]))).symm
  have hl:x.aj.length=y.aj.length:=by omega
  refine bF (ι:=Nat) zmx rfl [2,3,5] (fun i=>[.c (.ptr (0,0) 0),.c (.ptr (0,1) 0),.c (.d (.i .i64 i))]) (fun i=>[.box [.d (.s x.aU),.d (.sl (x.aj.map ah.enc))],.box [.d (.s y.aU),.d (.sl (y.aj.map ah.enc))]]::S)
   (fun i=>i<=x.aj.length/\∀j,j<i->x.aj[j]? =y.aj[j]?) (fun i=>x.aj.length-i) 0 rfl rfl ⟨Nat.zero_le _,fun j h=>by omega⟩ ?_
  rintro i ⟨p1,p2⟩;simp -implicitDefEqProofs (disch:=omega) only[go_sem,ah.aB]
  with_reducible refine aD (fun hb=> ?_) (fun hb=> ?_)<;>have h:=hb<;>(try simp only[wf_preprocess] at h)<;>simp -implicitDefEqProofs (disch:=omega) only[go_sem,hb]<;>(repeat(with_reducible refine And.intro ?_ ?_;focus first|omega|rfl|assumption|exact⟨_,rfl,rfl⟩|(simp;omega)|(simp;done)))
  ·have hi:i<x.aj.length:=by omega
   have hi':i<y.aj.length:=by omega
   (repeat(with_reducible refine And.intro ?_ ?_;focus first|omega|rfl|assumption|exact⟨_,rfl,rfl⟩|(simp;omega)|(simp;done)))
   refine aA (ih x.aj[i] (by have:=List.sizeOf_lt_of_mem (List.getElem_mem hi);omega) y.aj[i] (ZY hi hsz)) ?_;simp -implicitDefEqProofs (disch:=omega) only[go_sem]
   with_reducible refine aD (fun hb=> ?_) (fun hb=> ?_)<;>have h:=hb<;>(try simp only[wf_preprocess] at h)<;>simp -implicitDefEqProofs (disch:=omega) only[go_sem,hb]<;>(repeat(with_reducible refine And.intro ?_ ?_;focus first|omega|rfl|assumption|exact⟨_,rfl,rfl⟩|(simp;omega)|(simp;done)))
   ·exact aY (bI (fun e=>h (by simp only[e]))).symm
   refine dG (i+1) (by omega) rfl rfl ⟨by omega,fun j hj=> ?_⟩;by_cases e:j=i
   ·subst e;rw[List.getElem?_eq_getElem hi,List.getElem?_eq_getElem hi',h]
   ·exact p2 j (by omega)
  ·have hi:i=x.aj.length:=by omega
   refine aY (bT ?_).symm;refine ah.ext (by first|exact h1|(simp at h1;exact h1)) (List.ext_getElem? fun j=> ?_);by_cases hj:j<i
   ·exact p2 j hj
   ·rw[List.getElem?_eq_none (by omega),List.getElem?_eq_none (by omega)]
theorem nD(x y:ah)(h:x.sz<=4194304):aJ prog 9 [x.v,y.v] (.c (.d (.b (dec (x=y))))):=yH _ x (Nat.lt_succ_self _) y h
theorem yI:∀n:Nat,(∀x:ah,SizeOf.sizeOf x<n->∀y:ah,x.sz<=4194304->aJ prog 61 [x.v,y.v] (.c (.d (.b (dec (x=y))))))/\
 (∀xs:List ah,SizeOf.sizeOf xs<n->∀ys:List ah,xs.length<=4194304->(∀t∈xs,t.sz<=4194304)->aJ prog 135 [.c (.d (.sl (xs.map ah.enc))),.c (.d (.sl (ys.map ah.enc))),.c (.fn 61 [])] (.c (.d (.b (dec (xs=ys))))))
 |0=>⟨fun x h=>by omega,fun x h=>by omega⟩
 |n+1=>by
  obtain⟨ih,nJ⟩:=yI n;refine⟨fun x hn y hsz S=> ?_,fun xs hn ys hlen hsz S=> ?_⟩
  ·have ais:=ah.pW x;have hb:=Z0 hsz;refine zcx [.tmp 4] func61 ntmps61 ?_;simp -implicitDefEqProofs (disch:=omega) only[go_sem]
   with_reducible refine aD (fun hb=> ?_) (fun hb=> ?_)<;>have h:=hb<;>(try simp only[wf_preprocess] at h)<;>simp -implicitDefEqProofs (disch:=omega) only[go_sem,hb]<;>(repeat(with_reducible refine And.intro ?_ ?_;focus first|omega|rfl|assumption|exact⟨_,rfl,rfl⟩|(simp;omega)|(simp;done)))
   ·have h1:=h
    (repeat(with_reducible refine And.intro ?_ ?_;focus first|omega|rfl|assumption|exact⟨_,rfl,rfl⟩|(simp;omega)|(simp;done)))
    refine aA (nJ x.aj (by omega) y.aj (by omega) (fun t ht=>by
     obtain⟨i,hi,e⟩:=List.getElem_of_mem ht
     rw[<-e];exact ZY hi hsz)) ?_
    simp -implicitDefEqProofs (disch:=omega) only[go_sem];refine aY (jJ ⟨fun e=>ah.ext h1 e,fun e=>by rw[e]⟩)
   ·exact aY (bI (fun e=>h (by rw[e]))).symm
  ·refine zcx [.tmp 6] func135 ntmps135 ?_;simp -implicitDefEqProofs (disch:=omega) only[go_sem]
   with_reducible refine aD (fun hb=> ?_) (fun hb=> ?_)<;>have h:=hb<;>(try simp only[wf_preprocess] at h)<;>simp -implicitDefEqProofs (disch:=omega) only[go_sem,hb]<;>(repeat(with_reducible refine And.intro ?_ ?_;focus first|omega|rfl|assumption|exact⟨_,rfl,rfl⟩|(simp;omega)|(simp;done)))
   ·exact aY (bI (fun e=>h (by rw[e]))).symm
   have hl:xs.length=ys.length:=by omega
   refine bF (ι:=Nat) zmx rfl [1,2,15,16,17] (fun y=>[.c (.d (.sl (ys.map ah.enc))),.c (.fn 61 []),.c (.d (.sl (xs.map ah.enc))),.c (.d (.i .i64 xs.length)),.c (.d (.i .i64 y))]) (fun y=>[]::S)
    (fun i=>i<=xs.length/\∀j,j<i->xs[j]? =ys[j]?) (fun y=>xs.length-y) 0 rfl rfl ⟨Nat.zero_le _,fun j h=>by omega⟩ ?_
   rintro i ⟨p1,p2⟩;simp -implicitDefEqProofs (disch:=omega) only[go_sem]
   with_reducible refine aD (fun hb=> ?_) (fun hb=> ?_)<;>have h:=hb<;>(try simp only[wf_preprocess] at h)<;>simp -implicitDefEqProofs (disch:=omega) only[go_sem,hb]<;>(repeat(with_reducible refine And.intro ?_ ?_;focus first|omega|rfl|assumption|exact⟨_,rfl,rfl⟩|(simp;omega)|(simp;done)))
   ·have hi:i<xs.length:=by omega
    have hi':i<ys.length:=by omega
    (repeat(with_reducible refine And.intro ?_ ?_;focus first|omega|rfl|assumption|exact⟨_,rfl,rfl⟩|(simp;omega)|(simp;done)))
    refine aA (ih xs[i] (by have:=List.sizeOf_lt_of_mem (List.getElem_mem hi);omega) ys[i] (hsz _ (List.getElem_mem hi))) ?_;simp -implicitDefEqProofs (disch:=omega) only[go_sem]
    with_reducible refine aD (fun hb=> ?_) (fun hb=> ?_)<;>have h:=hb<;>(try simp only[wf_preprocess] at h)<;>simp -implicitDefEqProofs (disch:=omega) only[go_sem,hb]<;>(repeat(with_reducible refine And.intro ?_ ?_;focus first|omega|rfl|assumption|exact⟨_,rfl,rfl⟩|(simp;omega)|(simp;done)))
    ·exact aY (bI (fun e=>h (by simp only[e]))).symm
    refine dO 0 (by decide) (i+1) (by omega) rfl rfl rfl rfl ⟨by omega,fun j hj=> ?_⟩;by_cases e:j=i
    ·subst e;rw[List.getElem?_eq_getElem hi,List.getElem?_eq_getElem hi',h]
    ·exact p2 j (by omega)
   ·have hi:i=xs.length:=by omega
    refine aY (bT (List.ext_getElem? fun j=> ?_)).symm;by_cases hj:j<i
    ·exact p2 j hj
    ·rw[List.getElem?_eq_none (by omega),List.getElem?_eq_none (by omega)]
theorem GR(x y:ah)(h:x.sz<=4194304):aJ prog 61 [x.v,y.v] (.c (.d (.b (dec (x=y))))):=(yI _).1 x (Nat.lt_succ_self _) y h
theorem xR{α:Type}[SizeOf α]:∀(i:Nat)(l:List α),SizeOf.sizeOf (l.drop i)<=SizeOf.sizeOf l
 |0,l=>by simp
 |i+1,[]=>by simp
 |i+1,x::l=>by
  have:=xR i l;rw[List.drop_succ_cons];simp only[List.cons.sizeOf_spec];omega
theorem qy(l:List ah)(n i:Nat)(h:l.length<=n):((l.map ah.enc).take n).drop i=(l.drop i).map ah.enc:=by
 rw[List.take_of_length_le (by rw[List.length_map];exact h),List.map_drop]
theorem adh(l:List ah)(i:Nat):(l.getD i eH).sz<=dJ l:=by
 rw[List.getD_eq_getElem?_getD];by_cases h:i<l.length
 ·rw[List.getElem?_eq_getElem h];exact jP (List.getElem_mem h)
 ·rw[List.getElem?_eq_none (by omega)];rw[Option.getD_none,iB];simp[eH,ah.aU,ah.aj,bB]
theorem iL(x:ah):x.aj.length+dJ x.aj<=x.sz:=by rw[iB,jE];omega
theorem DX(x:ah):x.aU.length<=x.sz:=by rw[iB];omega
def vE(x:ah):List D:=[.s x.aU]
def allA(l:List ah):Bool:=l.all fun x=>decide (x.aU≠[])
theorem Uq{l:List ah}{i:Nat}(hi:i<l.length)(h:l[i].aU=[]):allA l=false/\jr l=[]:=by
 have:allA l=false:=by
  unfold allA;rw[List.all_eq_false];exact⟨_,List.getElem_mem hi,by simp[h]⟩
 refine⟨this,?_⟩;unfold jr;unfold allA at this;rw[this];rfl
theorem Rc{l:List ah}(h:∀j (hj:j<l.length),l[j].aU≠[]):allA l=true/\(jr l).map encS=l.map vE:=by
 have:allA l=true:=by
  unfold allA;rw[List.all_eq_true];intro x hx;obtain⟨j,hj,rfl⟩:=List.getElem_of_mem hx;exact decide_eq_true (h j hj)
 refine⟨this,?_⟩;unfold jr;unfold allA at this;rw[this,if_pos rfl,List.map_map];rfl
theorem FQ{l:List ah}{i:Nat}(hi:i<l.length):(l.take i).map vE++[[.s l[i].aU]]=(l.take (i+1)).map vE:=by
 rw[List.take_succ_eq_append_getElem hi,List.map_append];rfl
theorem H8{l:List ah}{i:Nat}:((l.take i).map vE).length<=i:=by rw[List.length_map];exact List.length_take_le _ _
def lt(l:List au)(n:Nat):List (List D):=eP (l.map au.enc) n
def gK(l:List au):Nat:=nG (l.map au.enc)
theorem afo(x:au)(n:Nat):dW x.enc n=[.i .i64 x.aI,.s x.fName,.ol n (lt x.fArgs (n+1))]:=by
 rw[au.aB];simp only[dW,lC,pz,Nat.add_zero,lt]
theorem Z4(l:List au)(n:Nat):(lt l n).length=l.length:=by unfold lt;rw[jU,List.length_map]
theorem afp{l:List au}{i:Nat}(hi:i<l.length)(n:Nat):lt (l.take i) n++[[.i .i64 l[i].aI,.s l[i].fName,.ol (n+gK (l.take i)) (lt l[i].fArgs (n+gK (l.take i)+1))]]=lt (l.take (i+1)) n:=by
 rw[List.take_succ_eq_append_getElem hi];unfold lt gK;rw[List.map_append,p8];simp only[List.map_cons,List.map_nil,eP,afo,lt]
theorem Z5{l:List au}{i:Nat}(hi:i<l.length):(l.take i).map au.enc++[[.i .i64 l[i].aI,.s l[i].fName,.sl (l[i].fArgs.map au.enc)]]=(l.take (i+1)).map au.enc:=by
 rw[List.take_succ_eq_append_getElem hi,List.map_append];simp only[List.map_cons,List.map_nil,au.aB]
theorem L9(k:Int)(s:List UInt8)(n:Nat):Less (.agg [.d (.i .i64 k),.d (.s s),.bE []]) (.agg [.d (.i .i64 k),.d (.s s),.d (.ol n [])]):=(eY.cons (.refl _) (.cons (.refl _) (.cons (fJ n) .nil))).less
theorem Ur(k:Int)(s:List UInt8)(es:List (List D)):Less (.agg [.d (.i .i64 k),.d (.s s),.bE es]) (.agg [.d (.i .i64 k),.d (.s s),.d (.sl es)]):=(eY.cons (.refl _) (.cons (.refl _) (.cons (iF es) .nil))).less
theorem agV{s:List UInt8}(h:s≠[]):((s.getD 0 0).toNat:Int)=39<->s.head? =some 39:=by
 cases s with
 |nil=>exact(h rfl).elim
 |cons b s=>
  simp only[List.getD_cons_zero,List.head?_cons,Option.some.injEq];constructor
  ·intro e
   have:b.toNat=39:=by omega
   exact UInt8.toNat.inj this
  ·intro e;rw[e];rfl
theorem KY(s:List UInt8)(n:Nat)(h:s.length<=n):(s.take n).drop 1=s.tail:=by rw[List.take_of_length_le h,List.drop_one]
abbrev au.vl(t:au)(n:Nat):V:=.agg [.d (.i .i64 t.aI),.d (.s t.fName),.d (.ol n (lt t.fArgs (n+1)))]
theorem IZ(l:List (List UInt8)):nG (l.map encS)=0:=by
 induction l with
 |nil=>rfl
 |cons s l ih=>rw[List.map_cons,nG,ih];rfl
theorem agW{b:Bool}{x:ah}{r:V}{k:Int}{s:List UInt8}{l:List au}(h:eB b x=.mk k s l)(hl:Less r (.agg [.d (.i .i64 k),.d (.s s),.d (.sl (l.map au.enc))])):Less r (eB b x).v:=by rw[h];exact hl
theorem adQ{b:Bool}{x:ah}{k:Int}{s:List UInt8}(h:eB b x=.mk k s []):Less (.agg [.d (.i .i64 k),.d (.s s),.bE []]) (eB b x).v:=by rw[h];exact Ur k s []
theorem adR{b:Bool}{x:ah}{k:Int}{s:List UInt8}(h:eB b x=.mk k s []):Less (.agg [.d (.i .i64 k),.d (.s s),.d (.sl [])]) (eB b x).v:=by rw[h];exact jL _
theorem adS{b:Bool}{x:ah}{r:V}{n:Nat}{k:Int}{s:List UInt8}{l:List au}(h:eB b x=.mk k s l)(hl:Less r (.agg [.d (.i .i64 k),.d (.s s),.d (.ol n (lt l (n+1)))])):Less r ((eB b x).vl n):=by rw[h];exact hl
theorem Z6{b:Bool}{x:ah}{n:Nat}{k:Int}{s:List UInt8}(h:eB b x=.mk k s []):Less (.agg [.d (.i .i64 k),.d (.s s),.bE []]) ((eB b x).vl n):=by rw[h];exact L9 k s n
theorem Z7{b:Bool}{x:ah}{n:Nat}{k:Int}{s:List UInt8}(h:eB b x=.mk k s []):Less (.agg [.d (.i .i64 k),.d (.s s),.d (.ol n [])]) ((eB b x).vl n):=by rw[h];exact jL _
theorem Tk{s:List UInt8}(h:1<=s.length):(s.take 1).drop 0=[39]<->s.head? =some 39:=by
 cases s with
 |nil=>simp at h
 |cons b s=>simp
theorem FR(xs:List ah)(hx:xs.length<=1073741824):aJ prog 139 [.c (.d (.sl (xs.map ah.enc)))] (.eU [(false,[.d (.sl ((jr xs).map encS))]),(false,[.d (.b (allA xs))])]):=aJ.of_le fun S=>by
 refine zcx [.tmp 2,.tmp 3] func139 ntmps139 ?_;simp -implicitDefEqProofs (disch:=omega) only[go_sem]
 (repeat(with_reducible refine And.intro ?_ ?_;focus first|omega|rfl|assumption|exact⟨_,rfl,rfl⟩|(simp;omega)|(simp;done)))
 refine yg 4 1 [] rfl (by simp) ?_
 refine bF (ι:=Nat) zmx rfl [0,4,5] (fun i=>[.c (.d (.sl (xs.map ah.enc))),.c (.bK (0,0) ((xs.take i).map vE)),.c (.d (.i .i64 i))]) (fun i=>[.tok 1 ((xs.take i).map vE)]::S)
  (fun i=>i<=xs.length/\∀j,∀hj:j<xs.length,j<i->xs[j].aU≠[]) (fun i=>xs.length-i) 0 rfl rfl ⟨Nat.zero_le _,fun j _ h=>by omega⟩ ?_
 rintro i ⟨p1,p2⟩;have hl:=H8 (l:=xs) (i:=i);simp -implicitDefEqProofs (disch:=omega) only[go_sem,ah.aB]
 with_reducible refine aD (fun hb=> ?_) (fun hb=> ?_)<;>have h:=hb<;>(try simp only[wf_preprocess] at h)<;>simp -implicitDefEqProofs (disch:=omega) only[go_sem,hb]<;>(repeat(with_reducible refine And.intro ?_ ?_;focus first|omega|rfl|assumption|exact⟨_,rfl,rfl⟩|(simp;omega)|(simp;done)))
 ·have hi':i<xs.length:=by omega
  have hs:=FQ hi'
  (repeat(with_reducible refine And.intro ?_ ?_;focus first|omega|rfl|assumption|exact⟨_,rfl,rfl⟩|(simp;omega)|(simp;done)))
  with_reducible refine aD (fun hb=> ?_) (fun hb=> ?_)<;>have h:=hb<;>(try simp only[wf_preprocess] at h)<;>simp -implicitDefEqProofs (disch:=omega) only[go_sem,hb]<;>(repeat(with_reducible refine And.intro ?_ ?_;focus first|omega|rfl|assumption|exact⟨_,rfl,rfl⟩|(simp;omega)|(simp;done)))
  ·obtain⟨e1,e2⟩:=Uq hi' h;rw[e1,e2];exact(kN.cons (.cons (iF _) .nil) (.refl _)).less
  ·(repeat(with_reducible refine And.intro ?_ ?_;focus first|omega|rfl|assumption|exact⟨_,rfl,rfl⟩|(simp;omega)|(simp;done)))
   rw[hs];refine dG (i+1) (by omega) rfl rfl ⟨by omega,fun j hj hji=> ?_⟩;by_cases e':j=i
   ·subst e';exact h
   ·exact p2 j hj (by omega)
 ·have hi':i=xs.length:=by omega
  subst hi';obtain⟨e1,e2⟩:=Rc fun j hj=>p2 j hj hj;rw[e1,e2,List.take_length];exact jL _
theorem FT(x:ah)(hx:x.sz<=4194304):aJ prog 64 [x.v] (.c (.d (.sl ((jr x.aj).map encS)))):=fun S=>by
 have:=iL x;refine zcx [.tmp 2] func64 ntmps64 ?_;simp -implicitDefEqProofs (disch:=omega) only[go_sem];refine aA (FR x.aj (by omega)) ?_;simp -implicitDefEqProofs (disch:=omega) only[go_sem]
theorem mQ(x:ah)(i:Nat)(hx:x.sz<=4194304)(hi:i<=100):aJ prog 63 [x.v,.c (.d (.i .i64 i))] (x.aj.getD i eH).v:=aJ.of_le fun S=>by
 have:=iL x;refine zcx [.cell 4 39] func63 ntmps63 ?_;simp -implicitDefEqProofs (disch:=omega) only[go_sem]
 with_reducible refine aD (fun hb=> ?_) (fun hb=> ?_)<;>have h:=hb<;>(try simp only[wf_preprocess] at h)<;>simp -implicitDefEqProofs (disch:=omega) only[go_sem,hb]<;>(repeat(with_reducible refine And.intro ?_ ?_;focus first|omega|rfl|assumption|exact⟨_,rfl,rfl⟩|(simp;omega)|(simp;done)))
 ·rw[List.getD_eq_getElem?_getD,List.getElem?_eq_none (by omega)];exact(eY.cons (.refl _) (.cons (iF _) .nil)).less
 ·have hi:i<x.aj.length:=by omega
  rw[List.getD_eq_getElem?_getD,List.getElem?_eq_getElem hi];exact jL _
theorem qN(a b:Int):aJ prog 144 [.c (.d (.i .i64 a)),.c (.d (.i .i64 b))] (.c (.d (.i .i64 (min a b)))):=fun S=>by
 refine zcx [.tmp 4] func144 ntmps144 ?_;simp -implicitDefEqProofs (disch:=omega) only[go_sem]
 with_reducible refine aD (fun hb=> ?_) (fun hb=> ?_)<;>have h:=hb<;>(try simp only[wf_preprocess] at h)<;>simp -implicitDefEqProofs (disch:=omega) only[go_sem,hb]<;>(repeat(with_reducible refine And.intro ?_ ?_;focus first|omega|rfl|assumption|exact⟨_,rfl,rfl⟩|(simp;omega)|(simp;done)))
 ·exact int_eq (by omega)
 ·exact int_eq (by omega)
theorem H9(x:ah)(i:Nat)(hx:x.sz<=4194304):aJ prog 77 [x.v,.c (.d (.i .i64 i))] (.c (.d (.sl ((x.aj.drop i).map ah.enc)))):=fun S=>by
 have:=iL x;refine zcx [.tmp 4] func77 ntmps77 ?_;simp -implicitDefEqProofs (disch:=omega) only[go_sem];refine aA (qN _ _) ?_
 have e:min (i:Int) (x.aj.length:Int)=((min i x.aj.length:Nat):Int):=by omega
 rw[e];have hr:=gW (l:=x.aj);simp -implicitDefEqProofs (disch:=omega) only[go_sem]
 (repeat(with_reducible refine And.intro ?_ ?_;focus first|omega|rfl|assumption|exact⟨_,rfl,rfl⟩|(simp;omega)|(simp;done)))
 refine⟨⟨by omega,by omega,by omega,hr⟩,?_⟩;rw[qy _ _ _ (Nat.le_refl _)];by_cases h:i<=x.aj.length
 ·rw[Nat.min_eq_left h]
 ·rw[Nat.min_eq_right (by omega),List.drop_length,List.drop_of_length_le (by omega)]
theorem Xn(s:List UInt8):aJ prog 140 [.c (.d (.s s)),.c (.d (.sl []))] (.agg [.d (.i .i64 2),.d (.s s),.d (.sl [])]):=aJ.of_le fun S=>by
 refine zcx [.cell 4 29] func140 ntmps140 ?_;simp -implicitDefEqProofs (disch:=omega) only[go_sem]
 (repeat(with_reducible refine And.intro ?_ ?_;focus first|omega|rfl|assumption|exact⟨_,rfl,rfl⟩|(simp;omega)|(simp;done)))
 exact jL _
theorem Xo(s:List UInt8):aJ prog 89 [.c (.d (.s s))] (.agg [.d (.i .i64 1),.d (.s s),.d (.sl [])]):=aJ.of_le fun S=>by
 refine zcx [.cell 2 29] func89 ntmps89 ?_;simp -implicitDefEqProofs (disch:=omega) only[go_sem]
 (repeat(with_reducible refine And.intro ?_ ?_;focus first|omega|rfl|assumption|exact⟨_,rfl,rfl⟩|(simp;omega)|(simp;done)))
 exact Ur _ _ _
theorem Ei:∀N:Nat,(∀x:ah,SizeOf.sizeOf x<N->x.sz<=4194304->aJ prog 66 [x.v] (eB false x).v)
 |0=>fun x h=>by omega
 |N+1=>by
  have ih:=Ei N;intro x hn hsz;have jA:=ah.pW x;have h1:=iL x;have h2:=DX x;have hx:=Uo false x
  have hall:∀t∈x.aj,t.sz<=4194304:=fun t ht=>by have:=jP ht;omega
  refine aJ.of_le fun S=> ?_;refine zcx [.cell 2 29] func66 ntmps66 ?_;simp -implicitDefEqProofs (disch:=omega) only[go_sem]
  with_reducible refine aD (fun hb=> ?_) (fun hb=> ?_)<;>have h:=hb<;>(try simp only[wf_preprocess] at h)<;>simp -implicitDefEqProofs (disch:=omega) only[go_sem,hb]<;>(repeat(with_reducible refine And.intro ?_ ?_;focus first|omega|rfl|assumption|exact⟨_,rfl,rfl⟩|(simp;omega)|(simp;done)))
  ·have hne:=h;rw[if_neg h] at hx;have h39:=agV h;have hln:0<x.aU.length:=List.length_pos_iff.2 hne;have hsl:=KY x.aU x.aU.length (Nat.le_refl _)
   (repeat(with_reducible refine And.intro ?_ ?_;focus first|omega|rfl|assumption|exact⟨_,rfl,rfl⟩|(simp;omega)|(simp;done)))
   with_reducible refine aD (fun hb=> ?_) (fun hb=> ?_)<;>have h:=hb<;>(try simp only[wf_preprocess] at h)<;>simp -implicitDefEqProofs (disch:=omega) only[go_sem,hb]<;>(repeat(with_reducible refine And.intro ?_ ?_;focus first|omega|rfl|assumption|exact⟨_,rfl,rfl⟩|(simp;omega)|(simp;done)))
   ·rw[if_pos (h39.1 h)] at hx
    (repeat(with_reducible refine And.intro ?_ ?_;focus first|omega|rfl|assumption|exact⟨_,rfl,rfl⟩|(simp;omega)|(simp;done)))
    rw[hsl];refine aA (Xo _) ?_;simp -implicitDefEqProofs (disch:=omega) only[go_sem];exact adR hx
   ·rw[if_neg (fun e=>h (h39.2 e))] at hx;refine aA (Xn _) ?_;simp -implicitDefEqProofs (disch:=omega) only[go_sem];exact adR hx
  rw[if_pos h] at hx
  with_reducible refine aD (fun hb=> ?_) (fun hb=> ?_)<;>have h:=hb<;>(try simp only[wf_preprocess] at h)<;>simp -implicitDefEqProofs (disch:=omega) only[go_sem,hb]<;>(repeat(with_reducible refine And.intro ?_ ?_;focus first|omega|rfl|assumption|exact⟨_,rfl,rfl⟩|(simp;omega)|(simp;done)))
  ·rw[if_pos (by omega)] at hx;exact adQ hx
  rw[if_neg (by omega)] at hx
  have hl2:2<=x.aj.length:=by omega
  have a0:=mX (l:=x.aj) (i:=0) (by omega);have a1:=mX (l:=x.aj) (i:=1) (by omega);obtain⟨T,hT⟩:∃T:Nat->List (List D),T=fun i=>(((x.aj.map (eB false)).drop 1).take i).map au.enc:=⟨_,rfl⟩
  have hT0:T 0=[]:=by rw[hT];rfl
  have lF:∀i,(T i).length<=i:=fun i=>by rw[hT];simp only[List.length_map];exact List.length_take_le _ _
  have hTr:∀i,∀r∈T i,r.length=3:=fun i=>by
   rw[hT];intro r hr;obtain⟨z,_,rfl⟩:=List.mem_map.1 hr;exact z.bN
  have hTs:∀i (hi:i+1<x.aj.length),T i++[[.i .i64 (eB false x.aj[i+1]).aI,.s (eB false x.aj[i+1]).fName,.sl ((eB false x.aj[i+1]).fArgs.map au.enc)]]=T (i+1):=fun i hi=>by
   have:=Z5 (l:=(x.aj.map (eB false)).drop 1) (i:=i) (by rw[List.length_drop,List.length_map];omega);rw[List.getElem_drop,List.getElem_map] at this;rw[hT];simp only[Nat.add_comm 1 i] at this ⊢;exact this
  have hTe:T (x.aj.length-1)=((x.aj.map (eB false)).drop 1).map au.enc:=by
   rw[hT];simp only
   rw[List.take_of_length_le (by simp)]
  have hTn:(T (x.aj.length-1)).length=x.aj.length-1:=by rw[hTe];simp
  have hTd:(T (x.aj.length-1)).drop 1=((x.aj.map (eB false)).drop 2).map au.enc:=by rw[hTe,<-List.map_drop,List.drop_drop]
  clear hT
  (repeat(with_reducible refine And.intro ?_ ?_;focus first|omega|rfl|assumption|exact⟨_,rfl,rfl⟩|(simp;omega)|(simp;done)))
  refine yg 4 3 [] rfl (by simp) ?_
  refine bF (ι:=Nat) zmx rfl [1,2,3,4,5] (fun i=>[.c (.ptr (0,0) 0),.c (.ptr (0,1) 0),.c (.d (.s x.aj[0].aU)),.c (.bK (0,2) (T i)),.c (.d (.i .i64 ((i+1:Nat):Int)))])
   (fun i=>[.box [.d (.s x.aU),.d (.sl (x.aj.map ah.enc))],.box [.d (.i .i64 0),.d (.s []),.bE []],.tok 3 (T i)]::S)
   (fun i=>i+1<=x.aj.length) (fun i=>x.aj.length-(i+1)) 0 (by rw[hT0];rfl) (by rw[hT0];rfl) (by omega) ?_
  intro i hi;have hl:=lF i;simp -implicitDefEqProofs (disch:=omega) only[go_sem]
  with_reducible refine aD (fun hb=> ?_) (fun hb=> ?_)<;>have h:=hb<;>(try simp only[wf_preprocess] at h)<;>simp -implicitDefEqProofs (disch:=omega) only[go_sem,hb]<;>(repeat(with_reducible refine And.intro ?_ ?_;focus first|omega|rfl|assumption|exact⟨_,rfl,rfl⟩|(simp;omega)|(simp;done)))
  ·have hi':i+1<x.aj.length:=by omega
   have hm:=List.getElem_mem hi';have hs:=hTs i hi'
   (repeat(with_reducible refine And.intro ?_ ?_;focus first|omega|rfl|assumption|exact⟨_,rfl,rfl⟩|(simp;omega)|(simp;done)))
   refine aA (ih x.aj[i+1] (by have:=List.sizeOf_lt_of_mem hm;omega) (hall _ hm)) ?_;simp -implicitDefEqProofs (disch:=omega) only[go_sem,au.aB]
   (repeat(with_reducible refine And.intro ?_ ?_;focus first|omega|rfl|assumption|exact⟨_,rfl,rfl⟩|(simp;omega)|(simp;done)))
   rw[hs];exact dG (i+1) (by omega) rfl rfl (by omega)
  have hi':i=x.aj.length-1:=by omega
  subst hi';have hrows:=hTr (x.aj.length-1);have hta:((T (x.aj.length-1)).take (x.aj.length-1))=T (x.aj.length-1):=List.take_of_length_le (by omega);rw[a0,a1] at hx;have tD:x.aj[0].aU=[100,121,110]/\x.aj.length=2/\x.aj[1].aU≠[]->eB false x=.mk 4 x.aj[1].aU []:=fun e=>hx.trans (if_pos ⟨e.1,.inr e.2⟩)
  have tA:x.aj[0].aU=[97,115,115,111,99]/\x.aj.length=3/\x.aj[1].aU≠[]->eB false x=.mk 3 x.aj[1].aU ((x.aj.map (eB false)).drop 2):=fun e=>by
   rw[hx,if_neg (fun e'=>by have:=e'.1.symm.trans e.1;revert this;decide),if_pos ⟨e.1,.inr e.2⟩]
  have tN:¬(x.aj[0].aU=[100,121,110]/\x.aj.length=2/\x.aj[1].aU≠[])->¬(x.aj[0].aU=[97,115,115,111,99]/\x.aj.length=3/\x.aj[1].aU≠[])->eB false x=.mk 2 x.aj[0].aU ((x.aj.map (eB false)).drop 1):=fun e1 e2=>by
   rw[hx,if_neg (fun e'=>e1 ⟨e'.1,e'.2.resolve_left (by decide)⟩),if_neg (fun e'=>e2 ⟨e'.1,e'.2.resolve_left (by decide)⟩)]
  clear hx hTs ih
  repeat' (first|(with_reducible refine aD (fun hb=> ?_) (fun hb=> ?_)<;>have h:=hb<;>(try simp only[wf_preprocess] at h)<;>simp -implicitDefEqProofs (disch:=omega) only[go_sem,hb]<;>(repeat(with_reducible refine And.intro ?_ ?_;focus first|omega|rfl|assumption|exact⟨_,rfl,rfl⟩|(simp;omega)|(simp;done)))))
  all_goals first
   |(refine⟨⟨by omega,by omega,hrows⟩,?_⟩;refine agW (tA ⟨by assumption,by omega,by assumption⟩) ?_;rw[hTn,hta,hTd];exact jL _)
   |exact adQ (tD ⟨by assumption,by omega,by assumption⟩)
   |(refine agW (tN (fun⟨a,b,c⟩=>by first|contradiction|omega) (fun⟨a,b,c⟩=>by first|contradiction|omega)) ?_;rw[hTe];exact jL _)
   |trace_state
theorem wG(x:ah)(hsz:x.sz<=4194304):aJ prog 66 [x.v] (eB false x).v:=Ei _ x (Nat.lt_succ_self _) hsz
theorem KZ(s:List UInt8)(hs:s.length<=1073741824):aJ prog 212 [.c (.d (.s s)),.c (.d (.s [39]))] (.c (.d (.b (decide (s.head? =some 39))))):=fun S=>by
 refine zcx [.tmp 4] func212 ntmps212 ?_;simp -implicitDefEqProofs (disch:=omega) only[go_sem]
 with_reducible refine aD (fun hb=> ?_) (fun hb=> ?_)<;>have h:=hb<;>(try simp only[wf_preprocess] at h)<;>simp -implicitDefEqProofs (disch:=omega) only[go_sem,hb]<;>(repeat(with_reducible refine And.intro ?_ ?_;focus first|omega|rfl|assumption|exact⟨_,rfl,rfl⟩|(simp;omega)|(simp;done)))
 ·exact aY (decide_eq_decide.2 (Tk (by omega)))
 ·have:s=[]:=List.eq_nil_of_length_eq_zero (by omega);subst this;rfl
theorem K3(s:List UInt8)(hs:s.length<=1073741824):aJ prog 185 [.c (.d (.s s)),.c (.d (.s [39]))] (.eU [(false,[.d (.s (if s.head? =some 39 then s.tail else s))]),(false,[.d (.b (decide (s.head? =some 39)))])]):=fun S=>by
 refine zcx [.tmp 4,.tmp 5] func185 ntmps185 ?_;simp -implicitDefEqProofs (disch:=omega) only[go_sem];refine aA (KZ s hs) ?_;simp -implicitDefEqProofs (disch:=omega) only[go_sem]
 with_reducible refine aD (fun hb=> ?_) (fun hb=> ?_)<;>have h:=hb<;>(try simp only[wf_preprocess] at h)<;>simp -implicitDefEqProofs (disch:=omega) only[go_sem,hb]<;>(repeat(with_reducible refine And.intro ?_ ?_;focus first|omega|rfl|assumption|exact⟨_,rfl,rfl⟩|(simp;omega)|(simp;done)))
 ·rw[if_neg h,decide_eq_false h]
 ·have hl:0<s.length:=by
   cases s with
   |nil=>cases h
   |cons _ _=>simp
  (repeat(with_reducible refine And.intro ?_ ?_;focus first|omega|rfl|assumption|exact⟨_,rfl,rfl⟩|(simp;omega)|(simp;done)))
  rw[if_pos h,decide_eq_true h,KY _ _ (Nat.le_refl _)]
theorem Rf(s:List UInt8)(hs:s.length<=1073741824):aJ prog 128 [.c (.d (.s s)),.c (.d (.s [39]))] (.eU [(false,[.d (.s (if s.head? =some 39 then s.tail else s))]),(false,[.d (.b (decide (s.head? =some 39)))])]):=fun S=>by
 refine zcx [.tmp 4,.tmp 5] func128 ntmps128 ?_;simp -implicitDefEqProofs (disch:=omega) only[go_sem];refine aA (K3 s hs) ?_;simp -implicitDefEqProofs (disch:=omega) only[go_sem]
theorem Bp(xs:List ah)(hx:xs.length<=1073741824)(n:Nat):aJ prog 127 [.c (.d (.sl (xs.map ah.enc)))] (.eU [(false,[.d (.ol n ((jr xs).map encS))]),(false,[.d (.b (allA xs))])]):=aJ.of_le fun S=>by
 refine lN (n) (rs:=[.tmp 2,.tmp 3]) zmx func127 ntmps127 rfl rfl rfl rfl rfl ?_;simp -implicitDefEqProofs (disch:=omega) only[go_sem]
 (repeat(with_reducible refine And.intro ?_ ?_;focus first|omega|rfl|assumption|exact⟨_,rfl,rfl⟩|(simp;omega)|(simp;done)))
 refine nQ n 4 1 [] (.inl rfl) (by simp) ?_
 refine bF (ι:=Nat) zmx rfl [4,8,9,10] (fun i=>[.c (.bK (0,1) ((xs.take i).map vE)),.c (.d (.sl (xs.map ah.enc))),.c (.d (.i .i64 xs.length)),.c (.d (.i .i64 i))]) (fun i=>[.seed n,.dY n 1 ((xs.take i).map vE)]::S)
  (fun i=>i<=xs.length/\∀j,∀hj:j<xs.length,j<i->xs[j].aU≠[]) (fun i=>xs.length-i) 0 rfl rfl ⟨Nat.zero_le _,fun j _ h=>by omega⟩ ?_
 rintro i ⟨p1,p2⟩;have hl:=H8 (l:=xs) (i:=i);simp -implicitDefEqProofs (disch:=omega) only[go_sem,ah.aB]
 with_reducible refine aD (fun hb=> ?_) (fun hb=> ?_)<;>have h:=hb<;>(try simp only[wf_preprocess] at h)<;>simp -implicitDefEqProofs (disch:=omega) only[go_sem,hb]<;>(repeat(with_reducible refine And.intro ?_ ?_;focus first|omega|rfl|assumption|exact⟨_,rfl,rfl⟩|(simp;omega)|(simp;done)))
 ·have hi':i<xs.length:=by omega
  have hs:=FQ hi'
  (repeat(with_reducible refine And.intro ?_ ?_;focus first|omega|rfl|assumption|exact⟨_,rfl,rfl⟩|(simp;omega)|(simp;done)))
  with_reducible refine aD (fun hb=> ?_) (fun hb=> ?_)<;>have h:=hb<;>(try simp only[wf_preprocess] at h)<;>simp -implicitDefEqProofs (disch:=omega) only[go_sem,hb]<;>(repeat(with_reducible refine And.intro ?_ ?_;focus first|omega|rfl|assumption|exact⟨_,rfl,rfl⟩|(simp;omega)|(simp;done)))
  ·obtain⟨e1,e2⟩:=Uq hi' h;rw[e1,e2];exact(kN.cons (.cons (fJ n) .nil) (.refl _)).less
  ·(repeat(with_reducible refine And.intro ?_ ?_;focus first|omega|rfl|assumption|exact⟨_,rfl,rfl⟩|(simp;omega)|(simp;done)))
   rw[hs];refine dO 2 (by decide) (i+1) (by omega) rfl rfl rfl rfl ⟨by omega,fun j hj hji=> ?_⟩;by_cases e':j=i
   ·subst e';exact h
   ·exact p2 j hj (by omega)
 ·have hi':i=xs.length:=by omega
  subst hi';obtain⟨e1,e2⟩:=Rc fun j hj=>p2 j hj hj;rw[e1,e2,List.take_length];exact jL _
theorem Ej(x:ah)(hx:x.sz<=4194304)(n:Nat):aJ prog 57 [x.v] (.c (.d (.ol n ((jr x.aj).map encS)))):=fun S=>by
 have:=iL x;refine zcx [.tmp 2] func57 ntmps57 ?_;simp -implicitDefEqProofs (disch:=omega) only[go_sem];refine aA (Bp x.aj (by omega) n) ?_;simp -implicitDefEqProofs (disch:=omega) only[go_sem]
theorem Tm(s:List UInt8)(n:Nat):aJ prog 129 [.c (.d (.s s))] (.agg [.d (.i .i64 1),.d (.s s),.d (.ol n [])]):=aJ.of_le fun S=>by
 refine zcx [.cell 2 29] func129 ntmps129 ?_;simp -implicitDefEqProofs (disch:=omega) only[go_sem]
 (repeat(with_reducible refine And.intro ?_ ?_;focus first|omega|rfl|assumption|exact⟨_,rfl,rfl⟩|(simp;omega)|(simp;done)))
 exact L9 _ _ _
theorem Tn(s:List UInt8)(n:Nat):aJ prog 130 [.c (.d (.s s))] (.agg [.d (.i .i64 4),.d (.s s),.d (.ol n [])]):=aJ.of_le fun S=>by
 refine zcx [.cell 2 29] func130 ntmps130 ?_;simp -implicitDefEqProofs (disch:=omega) only[go_sem]
 (repeat(with_reducible refine And.intro ?_ ?_;focus first|omega|rfl|assumption|exact⟨_,rfl,rfl⟩|(simp;omega)|(simp;done)))
 exact L9 _ _ _
theorem El:∀N:Nat,(∀x:ah,SizeOf.sizeOf x<N->∀n:Nat,x.sz<=4194304->aJ prog 59 [x.v] ((eB true x).vl n))/\
 (∀xs:List ah,SizeOf.sizeOf xs<N->∀n q:Nat,xs.length<=4194304->(∀t∈xs,t.sz<=4194304)->aJ prog 131 [.c (.d (.sl (xs.map ah.enc)))] (.c (.d (.ol n (lt (xs.map (eB true)) q)))))
 |0=>⟨fun x h=>by omega,fun x h=>by omega⟩
 |N+1=>by
  obtain⟨ih,nJ⟩:=El N;refine⟨fun x hn n hsz=>aJ.of_le fun S=> ?_,fun xs hn n q hlen hsz S=> ?_⟩
  ·have jA:=ah.pW x;have h1:=iL x;have h2:=DX x;have hx:=Uo true x
   have hall:∀t∈x.aj,t.sz<=4194304:=fun t ht=>by have:=jP ht;omega
   refine zcx [.cell 2 29] func59 ntmps59 ?_;simp -implicitDefEqProofs (disch:=omega) only[go_sem]
   with_reducible refine aD (fun hb=> ?_) (fun hb=> ?_)<;>have h:=hb<;>(try simp only[wf_preprocess] at h)<;>simp -implicitDefEqProofs (disch:=omega) only[go_sem,hb]<;>(repeat(with_reducible refine And.intro ?_ ?_;focus first|omega|rfl|assumption|exact⟨_,rfl,rfl⟩|(simp;omega)|(simp;done)))
   ·rw[if_neg h] at hx;refine aA (Rf x.aU (by omega)) ?_;simp -implicitDefEqProofs (disch:=omega) only[go_sem]
    with_reducible refine aD (fun hb=> ?_) (fun hb=> ?_)<;>have h:=hb<;>(try simp only[wf_preprocess] at h)<;>simp -implicitDefEqProofs (disch:=omega) only[go_sem,hb]<;>(repeat(with_reducible refine And.intro ?_ ?_;focus first|omega|rfl|assumption|exact⟨_,rfl,rfl⟩|(simp;omega)|(simp;done)))
    ·rw[if_pos h] at hx ⊢;refine aA (Tm _ n) ?_;simp -implicitDefEqProofs (disch:=omega) only[go_sem];exact Z7 hx
    ·rw[if_neg h] at hx
     (repeat(with_reducible refine And.intro ?_ ?_;focus first|omega|rfl|assumption|exact⟨_,rfl,rfl⟩|(simp;omega)|(simp;done)))
     exact Z6 hx
   rw[if_pos h] at hx
   with_reducible refine aD (fun hb=> ?_) (fun hb=> ?_)<;>have h:=hb<;>(try simp only[wf_preprocess] at h)<;>simp -implicitDefEqProofs (disch:=omega) only[go_sem,hb]<;>(repeat(with_reducible refine And.intro ?_ ?_;focus first|omega|rfl|assumption|exact⟨_,rfl,rfl⟩|(simp;omega)|(simp;done)))
   ·rw[if_pos (by omega)] at hx;exact Z6 hx
   rw[if_neg (by omega)] at hx
   have hl2:2<=x.aj.length:=by omega
   have a0:=mX (l:=x.aj) (i:=0) (by omega);have a1:=mX (l:=x.aj) (i:=1) (by omega);rw[a0,a1] at hx;have hr:=gW (l:=x.aj);have hd:=fun i=>qy x.aj x.aj.length i (Nat.le_refl _);have hso:=fun i=>xR i x.aj
   have hdl:∀i,(x.aj.drop i).length<=4194304:=fun i=>by rw[List.length_drop];omega
   have hda:∀i,∀t∈x.aj.drop i,t.sz<=4194304:=fun i t ht=>hall t (List.mem_of_mem_drop ht)
   (repeat(with_reducible refine And.intro ?_ ?_;focus first|omega|rfl|assumption|exact⟨_,rfl,rfl⟩|(simp;omega)|(simp;done)))
   with_reducible refine aD (fun hb=> ?_) (fun hb=> ?_)<;>have h:=hb<;>(try simp only[wf_preprocess] at h)<;>simp -implicitDefEqProofs (disch:=omega) only[go_sem,hb]<;>(repeat(with_reducible refine And.intro ?_ ?_;focus first|omega|rfl|assumption|exact⟨_,rfl,rfl⟩|(simp;omega)|(simp;done)))
   ·have hx:=hx.trans (if_pos ⟨h,.inl rfl⟩)
    (repeat(with_reducible refine And.intro ?_ ?_;focus first|omega|rfl|assumption|exact⟨_,rfl,rfl⟩|(simp;omega)|(simp;done)))
    refine aA (Tn _ n) ?_;simp -implicitDefEqProofs (disch:=omega) only[go_sem];exact Z7 hx
   have hx:=hx.trans (if_neg fun e=>h e.1)
   with_reducible refine aD (fun hb=> ?_) (fun hb=> ?_)<;>have h:=hb<;>(try simp only[wf_preprocess] at h)<;>simp -implicitDefEqProofs (disch:=omega) only[go_sem,hb]<;>(repeat(with_reducible refine And.intro ?_ ?_;focus first|omega|rfl|assumption|exact⟨_,rfl,rfl⟩|(simp;omega)|(simp;done)))
   ·have hx:=hx.trans (if_pos ⟨h,.inl rfl⟩);refine⟨⟨by omega,by omega,hr⟩,?_⟩;rw[hd];refine aA (nJ (x.aj.drop 2) (by have:=hso 2;omega) n (n+1) (hdl 2) (hda 2)) ?_;simp -implicitDefEqProofs (disch:=omega) only[go_sem];refine adS hx ?_;rw[List.map_drop];exact jL _
   ·have hx:=hx.trans (if_neg fun e=>h e.1);refine⟨⟨by omega,by omega,hr⟩,?_⟩;rw[hd];refine aA (nJ (x.aj.drop 1) (by have:=hso 1;omega) n (n+1) (hdl 1) (hda 1)) ?_;simp -implicitDefEqProofs (disch:=omega) only[go_sem];refine adS hx ?_;rw[List.map_drop];exact jL _
  ·have zm:=fun(i:Nat) (hi:i<xs.length)=>afp (l:=xs.map (eB true)) (i:=i) (by rw[List.length_map];exact hi) q;refine lN (n) (rs:=[.tmp 2]) zmx func131 ntmps131 rfl rfl rfl rfl rfl ?_;simp -implicitDefEqProofs (disch:=omega) only[go_sem]
   (repeat(with_reducible refine And.intro ?_ ?_;focus first|omega|rfl|assumption|exact⟨_,rfl,rfl⟩|(simp;omega)|(simp;done)))
   refine nQ n 3 3 [] (.inl rfl) (by simp) ?_
   refine bF (ι:=Nat) zmx rfl [3,7,8,9] (fun i=>[.c (.bK (0,1) (lt ((xs.map (eB true)).take i) q)),.c (.d (.sl (xs.map ah.enc))),.c (.d (.i .i64 xs.length)),.c (.d (.i .i64 i))]) (fun i=>[.seed n,.dY n 3 (lt ((xs.map (eB true)).take i) q)]::S)
    (fun i=>i<=xs.length) (fun i=>xs.length-i) 0 rfl rfl (Nat.zero_le _) ?_
   intro i hi;simp -implicitDefEqProofs (disch:=omega) only[go_sem,ah.aB]
   with_reducible refine aD (fun hb=> ?_) (fun hb=> ?_)<;>have h:=hb<;>(try simp only[wf_preprocess] at h)<;>simp -implicitDefEqProofs (disch:=omega) only[go_sem,hb]<;>(repeat(with_reducible refine And.intro ?_ ?_;focus first|omega|rfl|assumption|exact⟨_,rfl,rfl⟩|(simp;omega)|(simp;done)))
   ·have hi':i<xs.length:=by omega
    have hs:=zm i hi';rw[List.getElem_map] at hs
    have hl:(lt ((xs.map (eB true)).take i) q).length<=i:=by rw[Z4];exact List.length_take_le _ _
    (repeat(with_reducible refine And.intro ?_ ?_;focus first|omega|rfl|assumption|exact⟨_,rfl,rfl⟩|(simp;omega)|(simp;done)))
    refine aA (ih xs[i] (by have:=List.sizeOf_lt_of_mem (List.getElem_mem hi');omega) (q+gK ((xs.map (eB true)).take i)) (hsz _ (List.getElem_mem hi'))) ?_;simp -implicitDefEqProofs (disch:=omega) only[go_sem]
    (repeat(with_reducible refine And.intro ?_ ?_;focus first|omega|rfl|assumption|exact⟨_,rfl,rfl⟩|(simp;omega)|(simp;done)))
    rw[hs];exact dO 2 (by decide) (i+1) (by omega) rfl rfl rfl rfl (by omega)
   ·have hi':i=(xs.map (eB true)).length:=by rw[List.length_map];omega
    rw[hi',List.take_length]
theorem uz(x:ah)(n:Nat)(hsz:x.sz<=4194304):aJ prog 59 [x.v] ((eB true x).vl n):=(El _).1 x (Nat.lt_succ_self _) n hsz
theorem DY(x:ah)(s:List UInt8)(k:Nat)(hk:1<=k)(hk2:k<=100)(hsz:x.sz<=4194304):aJ prog 56 [x.v,.c (.d (.s s)),.c (.d (.i .i64 k))] (.c (.d (.b (dec (iE x=true/\k<=x.aj.length/\dA x.aj 0=s))))):=fun S=>by
 have h1:=iL x;obtain⟨t,ht⟩:∃t,t=dec (iE x=true/\k<=x.aj.length/\dA x.aj 0=s):=⟨_,rfl⟩;rw[<-ht];refine zcx [.tmp 6] func56 ntmps56 ?_;simp -implicitDefEqProofs (disch:=omega) only[go_sem];refine aA (yP x (by omega)) ?_;simp -implicitDefEqProofs (disch:=omega) only[go_sem]
 with_reducible refine aD (fun hb=> ?_) (fun hb=> ?_)<;>have h:=hb<;>(try simp only[wf_preprocess] at h)<;>simp -implicitDefEqProofs (disch:=omega) only[go_sem,hb]<;>(repeat(with_reducible refine And.intro ?_ ?_;focus first|omega|rfl|assumption|exact⟨_,rfl,rfl⟩|(simp;omega)|(simp;done)))
 ·have hv:=h
  with_reducible refine aD (fun hb=> ?_) (fun hb=> ?_)<;>have h:=hb<;>(try simp only[wf_preprocess] at h)<;>simp -implicitDefEqProofs (disch:=omega) only[go_sem,hb]<;>(repeat(with_reducible refine And.intro ?_ ?_;focus first|omega|rfl|assumption|exact⟨_,rfl,rfl⟩|(simp;omega)|(simp;done)))
  ·have hl:0<x.aj.length:=by omega
   have hl2:k<=x.aj.length:=by omega
   have a0:=mX hl
   (repeat(with_reducible refine And.intro ?_ ?_;focus first|omega|rfl|assumption|exact⟨_,rfl,rfl⟩|(simp;omega)|(simp;done)))
   refine aY ?_;rw[kY,ht];exact jJ ⟨fun e=>⟨hv,hl2,by rw[a0];exact e⟩,fun e=>by rw[<-a0];exact e.2.2⟩
  ·exact aY (ht.trans (bI fun e=>by omega)).symm
 ·exact aY (ht.trans (bI fun e=>by rw[e.1] at h;cases h)).symm
theorem mY(b:Bool)(x:ah):dU b x=if x.aU=[] then
 if b=true/\(x.aj.length<2\/dA x.aj 0=gP/\x.aj.length<3) then qX
 else if dA x.aj 0=mF then .mk 4 [] (dA x.aj 1) 0 ig ((x.aj.map (dU b)).drop 2) []
 else if dA x.aj 0=pE then .mk 6 [] (dA x.aj 1) 0 ig ((x.aj.map (dU b)).drop 2) []
 else if dA x.aj 0=pF then .mk 8 [] (dA x.aj 1) 0 ig ((x.aj.map (dU b)).drop 2) []
 else if dA x.aj 0=mG then .mk 11 (dA x.aj 1) [] 0 ig ((x.aj.map (dU b)).drop 2) []
 else if dA x.aj 0=gP then .mk 5 (dA x.aj 1) (dA x.aj 2) 0 ig ((x.aj.map (dU b)).drop 3) []
 else if dA x.aj 0=um then .mk 9 [] [] 0 ig ((x.aj.map (dU b)).drop 1) []
 else if dA x.aj 0=qd then .mk 12 [] [] 0 (eB b (x.aj.getD 1 eH)) ((x.aj.map (dU b)).drop 2) []
 else if dA x.aj 0=jl then .mk 7 [] [] 0 ig (((x.aj.map (dU b)).drop 1).take 1) ((x.aj.map (nX b)).drop 2)
 else .mk 10 [] (dA x.aj 0) 0 ig ((x.aj.map (dU b)).drop 1) []
 else match fK x.aU with
  |some n=>.mk 1 [] [] n ig [] []
  |none=>if x.aU=xM then .mk 2 [] [] 1 ig [] [] else if x.aU=wC then .mk 2 [] [] 0 ig [] [] else .mk 3 [] x.aU 0 ig [] []:=by
 cases x;rw[dU,yF,Bl];rfl
theorem Us(b:Bool)(x:ah)(h:2<=x.aj.length):nX b x=.mk (dA x.aj 0) (jr ((x.aj.drop 1).dropLast)) (dU b (x.aj[x.aj.length-1]'(by omega))):=by
 obtain⟨a,l⟩:=x;simp only[ah.aj] at h ⊢;rw[nX,if_neg (by omega),yF];congr 1;rw[List.getLastD_eq_getLast?,List.getLast?_eq_getElem?,List.length_map,List.getElem?_eq_getElem (by rw[List.length_map];omega)]
 simp
theorem Ut(b:Bool)(x:ah)(h:x.aj.length<2):nX b x=.mk [] [] qX:=by
 obtain⟨a,l⟩:=x;rw[nX];exact if_pos h
def uD(b:Bool)(l:List ah):Prop:=¬(b=true/\(l.length<2\/dA l 0=gP/\l.length<3))
theorem Nn{b:Bool}{x:ah}(ha:x.aU=[])(hg:uD b x.aj)(h:dA x.aj 0=mF):dU b x=.mk 4 [] (dA x.aj 1) 0 ig ((x.aj.drop 2).map (dU b)) []:=by
 rw[mY,if_pos ha,if_neg hg,if_pos h];simp only[List.map_drop,List.map_take]
theorem Rh{b:Bool}{x:ah}(ha:x.aU=[])(hg:uD b x.aj)(h:dA x.aj 0=pE):dU b x=.mk 6 [] (dA x.aj 1) 0 ig ((x.aj.drop 2).map (dU b)) []:=by
 rw[mY,if_pos ha,if_neg hg,if_neg (by rw[h];decide),if_pos h];simp only[List.map_drop,List.map_take]
theorem Ri{b:Bool}{x:ah}(ha:x.aU=[])(hg:uD b x.aj)(h:dA x.aj 0=pF):dU b x=.mk 8 [] (dA x.aj 1) 0 ig ((x.aj.drop 2).map (dU b)) []:=by
 rw[mY,if_pos ha,if_neg hg,if_neg (by rw[h];decide),if_neg (by rw[h];decide),if_pos h];simp only[List.map_drop,List.map_take]
theorem Np{b:Bool}{x:ah}(ha:x.aU=[])(hg:uD b x.aj)(h:dA x.aj 0=mG):dU b x=.mk 11 (dA x.aj 1) [] 0 ig ((x.aj.drop 2).map (dU b)) []:=by
 rw[mY,if_pos ha,if_neg hg,if_neg (by rw[h];decide),if_neg (by rw[h];decide),if_neg (by rw[h];decide),if_pos h];simp only[List.map_drop,List.map_take]
theorem Ia{b:Bool}{x:ah}(ha:x.aU=[])(hg:uD b x.aj)(h:dA x.aj 0=gP):dU b x=.mk 5 (dA x.aj 1) (dA x.aj 2) 0 ig ((x.aj.drop 3).map (dU b)) []:=by
 rw[mY,if_pos ha,if_neg hg,if_neg (by rw[h];decide),if_neg (by rw[h];decide),if_neg (by rw[h];decide),if_neg (by rw[h];decide),if_pos h];simp only[List.map_drop,List.map_take]
theorem Uu{b:Bool}{x:ah}(ha:x.aU=[])(hg:uD b x.aj)(h:dA x.aj 0=um):dU b x=.mk 9 [] [] 0 ig ((x.aj.drop 1).map (dU b)) []:=by
 rw[mY,if_pos ha,if_neg hg,if_neg (by rw[h];decide),if_neg (by rw[h];decide),if_neg (by rw[h];decide),if_neg (by rw[h];decide),if_neg (by rw[h];decide),if_pos h];simp only[List.map_drop,List.map_take]
theorem Rj{b:Bool}{x:ah}(ha:x.aU=[])(hg:uD b x.aj)(h:dA x.aj 0=qd):dU b x=.mk 12 [] [] 0 (eB b (x.aj.getD 1 eH)) ((x.aj.drop 2).map (dU b)) []:=by
 rw[mY,if_pos ha,if_neg hg,if_neg (by rw[h];decide),if_neg (by rw[h];decide),if_neg (by rw[h];decide),if_neg (by rw[h];decide),if_neg (by rw[h];decide),if_neg (by rw[h];decide),if_pos h];simp only[List.map_drop,List.map_take]
theorem Nq{b:Bool}{x:ah}(ha:x.aU=[])(hg:uD b x.aj)(h:dA x.aj 0=jl):dU b x=.mk 7 [] [] 0 ig (((x.aj.drop 1).take 1).map (dU b)) ((x.aj.drop 2).map (nX b)):=by
 rw[mY,if_pos ha,if_neg hg,if_neg (by rw[h];decide),if_neg (by rw[h];decide),if_neg (by rw[h];decide),if_neg (by rw[h];decide),if_neg (by rw[h];decide),if_neg (by rw[h];decide),if_neg (by rw[h];decide),if_pos h];simp only[List.map_drop,List.map_take]
theorem Nr{b:Bool}{x:ah}(ha:x.aU=[])(hg:uD b x.aj)(h0:dA x.aj 0≠mF)(h1:dA x.aj 0≠pE)(h2:dA x.aj 0≠pF)(h3:dA x.aj 0≠mG)(h4:dA x.aj 0≠gP)(h5:dA x.aj 0≠um)(h6:dA x.aj 0≠qd)(h7:dA x.aj 0≠jl):dU b x=.mk 10 [] (dA x.aj 0) 0 ig ((x.aj.drop 1).map (dU b)) []:=by
 rw[mY,if_pos ha,if_neg hg,if_neg h0,if_neg h1,if_neg h2,if_neg h3,if_neg h4,if_neg h5,if_neg h6,if_neg h7];simp only[List.map_drop,List.map_take]
theorem Ns{x:ah}(ha:x.aU=[])(hg:¬uD true x.aj):dU true x=qX:=by
 rw[mY,if_pos ha,if_pos (Decidable.not_not.1 hg)]
theorem Rk{b:Bool}{x:ah}{n:Int}(ha:x.aU≠[])(h:fK x.aU=some n):dU b x=.mk 1 [] [] n ig [] []:=by
 rw[mY,if_neg ha,h]
theorem Nt{b:Bool}{x:ah}(ha:x.aU≠[])(h:fK x.aU=none)(h1:x.aU=xM):dU b x=.mk 2 [] [] 1 ig [] []:=by
 rw[mY,if_neg ha,h];exact if_pos h1
theorem K4{b:Bool}{x:ah}(ha:x.aU≠[])(h:fK x.aU=none)(h1:x.aU≠xM)(h2:x.aU=wC):dU b x=.mk 2 [] [] 0 ig [] []:=by
 rw[mY,if_neg ha,h];exact(if_neg h1).trans (if_pos h2)
theorem Rl{b:Bool}{x:ah}(ha:x.aU≠[])(h:fK x.aU=none)(h1:x.aU≠xM)(h2:x.aU≠wC):dU b x=.mk 3 [] x.aU 0 ig [] []:=by
 rw[mY,if_neg ha,h];exact(if_neg h1).trans (if_neg h2)
def lE(l:List aC)(n:Nat):List (List D):=eP (l.map aC.enc) n
def mZ(l:List aC):Nat:=nG (l.map aC.enc)
def lM(l:List aP)(n:Nat):List (List D):=eP (l.map aP.enc) n
def Xp(l:List aP):Nat:=nG (l.map aP.enc)
abbrev aC.vl(x:aC)(n:Nat):V:=.agg [.d (.i .i64 x.aI),.d (.s x.bg),.d (.s x.fName),.d (.i .i64 x.fN),.d (.i .i64 x.fType.aI),.d (.s x.fType.fName),.d (.ol n (lt x.fType.fArgs (n+1))),
 .d (.ol (n+(gK x.fType.fArgs+1)) (lE x.fArgs (n+(gK x.fType.fArgs+1)+1))),.d (.ol (n+(gK x.fType.fArgs+1)+(mZ x.fArgs+1)) (lM x.aO (n+(gK x.fType.fArgs+1)+(mZ x.fArgs+1)+1)))]
theorem Rm(x:aC)(n:Nat):dW x.enc n=[.i .i64 x.aI,.s x.bg,.s x.fName,.i .i64 x.fN,.i .i64 x.fType.aI,.s x.fType.fName,.ol n (lt x.fType.fArgs (n+1)),
 .ol (n+(gK x.fType.fArgs+1)) (lE x.fArgs (n+(gK x.fType.fArgs+1)+1)),.ol (n+(gK x.fType.fArgs+1)+(mZ x.fArgs+1)) (lM x.aO (n+(gK x.fType.fArgs+1)+(mZ x.fArgs+1)+1))]:=by
 simp only[aC.aB,au.aB,List.cons_append,List.nil_append,dW,lC,pz,Nat.add_zero,lt,lE,lM,gK,mZ]
theorem adi(x:aP)(n:Nat):dW x.enc n=[.s x.bU,.ol n (x.aK.map encS)]++dW x.fBody.enc (n+1):=by
 rw[aP.aB,Hu];simp only[dW,lC,qL,pz,Nat.add_zero,DF,IZ,Nat.zero_add]
abbrev aP.vl(x:aP)(n:Nat):V:=.agg [.d (.s x.bU),.d (.ol n (x.aK.map encS)),.d (.i .i64 x.fBody.aI),.d (.s x.fBody.bg),.d (.s x.fBody.fName),.d (.i .i64 x.fBody.fN),.d (.i .i64 x.fBody.fType.aI),.d (.s x.fBody.fType.fName),.d (.ol (n+1) (lt x.fBody.fType.fArgs (n+1+1))),
 .d (.ol (n+1+(gK x.fBody.fType.fArgs+1)) (lE x.fBody.fArgs (n+1+(gK x.fBody.fType.fArgs+1)+1))),.d (.ol (n+1+(gK x.fBody.fType.fArgs+1)+(mZ x.fBody.fArgs+1)) (lM x.fBody.aO (n+1+(gK x.fBody.fType.fArgs+1)+(mZ x.fBody.fArgs+1)+1)))]
theorem Z8(l:List aC)(n:Nat):(lE l n).length=l.length:=by unfold lE;rw[jU,List.length_map]
theorem Z9(l:List aP)(n:Nat):(lM l n).length=l.length:=by unfold lM;rw[jU,List.length_map]
theorem afq{l:List aC}{i:Nat}(hi:i<l.length)(n:Nat):lE (l.take i) n++[dW l[i].enc (n+mZ (l.take i))]=lE (l.take (i+1)) n:=by
 rw[List.take_succ_eq_append_getElem hi];unfold lE mZ;rw[List.map_append,p8];rfl
theorem afr{l:List aP}{i:Nat}(hi:i<l.length)(n:Nat):lM (l.take i) n++[dW l[i].enc (n+Xp (l.take i))]=lM (l.take (i+1)) n:=by
 rw[List.take_succ_eq_append_getElem hi];unfold lM Xp;rw[List.map_append,p8];rfl
theorem aac{l:List aC}{i:Nat}(hi:i<l.length):(l.take i).map aC.enc++[l[i].enc]=(l.take (i+1)).map aC.enc:=by
 rw[List.take_succ_eq_append_getElem hi,List.map_append];rfl
theorem aad{l:List aP}{i:Nat}(hi:i<l.length):(l.take i).map aP.enc++[l[i].enc]=(l.take (i+1)).map aP.enc:=by
 rw[List.take_succ_eq_append_getElem hi,List.map_append];rfl
theorem Uv{x:aC}{n:Nat}{k N:Int}{tr nm:List UInt8}(h:x=.mk k tr nm N ig [] []):Less (.agg [.d (.i .i64 k),.d (.s tr),.d (.s nm),.d (.i .i64 N),.d (.i .i64 0),.d (.s []),.bE [],.bE [],.bE []]) (x.vl n):=by
 rw[h];exact(eY.cons (.refl _) (.cons (.refl _) (.cons (.refl _) (.cons (.refl _) (.cons (.refl _) (.cons (.refl _) (.cons (fJ _) (.cons (fJ _) (.cons (fJ _) .nil))))))))).less
theorem Rn{x:aC}{n:Nat}{k N:Int}{tr nm:List UInt8}{args:List aC}(h:x=.mk k tr nm N ig args []):Less (.agg [.d (.i .i64 k),.d (.s tr),.d (.s nm),.d (.i .i64 N),.d (.i .i64 0),.d (.s []),.bE [],.d (.ol (n+1) (lE args (n+1+1))),.bE []]) (x.vl n):=by
 rw[h];exact(eY.cons (.refl _) (.cons (.refl _) (.cons (.refl _) (.cons (.refl _) (.cons (.refl _) (.cons (.refl _) (.cons (fJ _) (.cons (.refl _) (.cons (fJ _) .nil))))))))).less
theorem ie2{x:aC}{n:Nat}{k N:Int}{tr nm:List UInt8}{ty:au}{args:List aC}(h:x=.mk k tr nm N ty args []):Less (.agg [.d (.i .i64 k),.d (.s tr),.d (.s nm),.d (.i .i64 N),.d (.i .i64 ty.aI),.d (.s ty.fName),.d (.ol n (lt ty.fArgs (n+1))),.d (.ol (n+(gK ty.fArgs+1)) (lE args (n+(gK ty.fArgs+1)+1))),.bE []]) (x.vl n):=by
 rw[h];exact(eY.cons (.refl _) (.cons (.refl _) (.cons (.refl _) (.cons (.refl _) (.cons (.refl _) (.cons (.refl _) (.cons (.refl _) (.cons (.refl _) (.cons (fJ _) .nil))))))))).less
theorem ie3{x:aC}{n:Nat}{k N:Int}{tr nm:List UInt8}{args:List aC}{arms:List aP}(h:x=.mk k tr nm N ig args arms):Less (.agg [.d (.i .i64 k),.d (.s tr),.d (.s nm),.d (.i .i64 N),.d (.i .i64 0),.d (.s []),.bE [],.d (.ol (n+1) (lE args (n+1+1))),.d (.ol (n+1+(mZ args+1)) (lM arms (n+1+(mZ args+1)+1)))]) (x.vl n):=by
 rw[h];exact(eY.cons (.refl _) (.cons (.refl _) (.cons (.refl _) (.cons (.refl _) (.cons (.refl _) (.cons (.refl _) (.cons (fJ _) (.cons (.refl _) (.cons (.refl _) .nil))))))))).less
theorem se0{x:aC}{k N:Int}{tr nm:List UInt8}(h:x=.mk k tr nm N ig [] []):Less (.agg [.d (.i .i64 k),.d (.s tr),.d (.s nm),.d (.i .i64 N),.d (.i .i64 0),.d (.s []),.bE [],.bE [],.bE []]) x.v:=by
 rw[h];exact(eY.cons (.refl _) (.cons (.refl _) (.cons (.refl _) (.cons (.refl _) (.cons (.refl _) (.cons (.refl _) (.cons (iF _) (.cons (iF _) (.cons (iF _) .nil))))))))).less
theorem Ro{x:aC}{k N:Int}{tr nm:List UInt8}{args:List aC}(h:x=.mk k tr nm N ig args []):Less (.agg [.d (.i .i64 k),.d (.s tr),.d (.s nm),.d (.i .i64 N),.d (.i .i64 0),.d (.s []),.bE [],.d (.sl (args.map aC.enc)),.bE []]) x.v:=by
 rw[h];exact(eY.cons (.refl _) (.cons (.refl _) (.cons (.refl _) (.cons (.refl _) (.cons (.refl _) (.cons (.refl _) (.cons (iF _) (.cons (.refl _) (.cons (iF _) .nil))))))))).less
theorem se2{x:aC}{k N:Int}{tr nm:List UInt8}{ty:au}{args:List aC}(h:x=.mk k tr nm N ty args []):Less (.agg [.d (.i .i64 k),.d (.s tr),.d (.s nm),.d (.i .i64 N),.d (.i .i64 ty.aI),.d (.s ty.fName),.d (.sl (ty.fArgs.map au.enc)),.d (.sl (args.map aC.enc)),.bE []]) x.v:=by
 rw[h];exact(eY.cons (.refl _) (.cons (.refl _) (.cons (.refl _) (.cons (.refl _) (.cons (.refl _) (.cons (.refl _) (.cons (.refl _) (.cons (.refl _) (.cons (iF _) .nil))))))))).less
theorem se3{x:aC}{k N:Int}{tr nm:List UInt8}{args:List aC}{arms:List aP}(h:x=.mk k tr nm N ig args arms):Less (.agg [.d (.i .i64 k),.d (.s tr),.d (.s nm),.d (.i .i64 N),.d (.i .i64 0),.d (.s []),.bE [],.d (.sl (args.map aC.enc)),.d (.sl (arms.map aP.enc))]) x.v:=by
 rw[h];exact(eY.cons (.refl _) (.cons (.refl _) (.cons (.refl _) (.cons (.refl _) (.cons (.refl _) (.cons (.refl _) (.cons (iF _) (.cons (.refl _) (.cons (.refl _) .nil))))))))).less
theorem Tp(l:List ah)(i:Nat):((l.map ah.enc).take l.length).drop (min i l.length)=(l.drop i).map ah.enc:=by
 rw[qy _ _ _ (Nat.le_refl _)];by_cases h:i<=l.length
 ·rw[Nat.min_eq_left h]
 ·rw[Nat.min_eq_right (by omega),List.drop_length,List.drop_of_length_le (by omega)]
theorem afs(l:List ah):((l.map ah.enc).take (min 2 l.length)).drop 1=((l.drop 1).take 1).map ah.enc:=by
 match l with
 |[]=>rfl
 |[x]=>rfl
 |x::y::l=>simp[show min 2 (l.length+1+1)=2 by omega]
theorem Xq(l:List ah)(i:Nat)(h:i<l.length+3):(l.map ah.enc++([[.s [],.sl []],[.s [],.sl []],[.s [],.sl []]]:List (List D))).getD i []=[.s (dA l i),.sl ((l.getD i eH).aj.map ah.enc)]:=by
 rw[List.getD_eq_getElem?_getD,List.getElem?_append];split
 ·rename_i hi;rw[List.length_map] at hi;rw[List.getElem?_map,List.getElem?_eq_getElem hi];simp only[Option.map_some,Option.getD_some];rw[ah.aB,mX hi,List.getD_eq_getElem?_getD,List.getElem?_eq_getElem hi];rfl
 ·rename_i hi;rw[List.length_map] at hi;rw[CG (by omega),List.getD_eq_getElem?_getD,List.getElem?_eq_none (by omega:l.length<=i),List.length_map]
  have:i-l.length=0\/i-l.length=1\/i-l.length=2:=by omega
  rcases this with e|e|e<;>rw[e]<;>rfl
theorem Nu(l:List ah)(h:2<=l.length):((l.map ah.enc).take ((l.length:Int)-1).toNat).drop 1=((l.drop 1).dropLast).map ah.enc:=by
 rw[show((l.length:Int)-1).toNat=l.length-1 by omega,<-List.map_take,<-List.map_drop,List.dropLast_eq_take,List.length_drop,List.drop_take]
theorem Ay(x:ah)(i:Nat){m:Nat}(h:x.sz<=m):(x.aj.getD i eH).sz<=m:=by
 have:=adh x.aj i;have:=iL x;omega
theorem uM{l:List ah}(h:jf l=true){t:ah}(ht:t∈l):je t=true:=zk.1 h t ht
theorem oP{l:List ah}(h:jf l=true)(i:Nat):jf (l.drop i)=true:=zk.2 fun t ht=>uM h (List.mem_of_mem_drop ht)
theorem aae{l:List ah}(h:jf l=true)(i:Nat):jf (l.take i)=true:=zk.2 fun t ht=>uM h (List.mem_of_mem_take ht)
theorem BN{α:Type}[SizeOf α]:∀(i:Nat)(l:List α),SizeOf.sizeOf (l.take i)<=SizeOf.sizeOf l
 |0,[]=>by simp
 |0,x::l=>by rw[List.take_zero];simp only[List.cons.sizeOf_spec,List.nil.sizeOf_spec];omega
 |i+1,[]=>by simp
 |i+1,x::l=>by
  have:=BN i l;rw[List.take_succ_cons];simp only[List.cons.sizeOf_spec];omega
theorem Xr(n:Int):aJ prog 142 [.c (.d (.i .i64 n))] (.agg [.d (.i .i64 1),.d (.s []),.d (.s []),.d (.i .i64 n),.d (.i .i64 0),.d (.s []),.bE [],.bE [],.bE []]):=fun S=>by
 refine zcx [.cell 2 33] func142 ntmps142 ?_;simp -implicitDefEqProofs (disch:=omega) only[go_sem]
theorem Tq(s:List UInt8):aJ prog 91 [.c (.d (.s s))] (.agg [.d (.i .i64 3),.d (.s []),.d (.s s),.d (.i .i64 0),.d (.i .i64 0),.d (.s []),.bE [],.bE [],.bE []]):=fun S=>by
 refine zcx [.cell 2 33] func91 ntmps91 ?_;simp -implicitDefEqProofs (disch:=omega) only[go_sem]
theorem FU:∀N:Nat,(∀x:ah,SizeOf.sizeOf x<N->x.sz<=4194304->aJ prog 67 [x.v] (dU false x).v)/\
 (∀xs:List ah,SizeOf.sizeOf xs<N->xs.length<=4194304->(∀t∈xs,t.sz<=4194304)->aJ prog 143 [.c (.d (.sl (xs.map ah.enc)))] (.c (.d (.sl ((xs.map (dU false)).map aC.enc)))))/\
 (∀x:ah,SizeOf.sizeOf x<N->x.sz<=4194304->aJ prog 145 [x.v] (nX false x).v)
 |0=>⟨fun x h=>by omega,fun x h=>by omega,fun x h=>by omega⟩
 |N+1=>by
  obtain⟨ih,nJ,ihM⟩:=FU N;refine⟨fun x hn hsz=>aJ.of_le fun S=> ?_,fun xs hn hlen hsz S=> ?_,fun x hn hsz=>aJ.of_le fun S=> ?_⟩
  ·have jA:=ah.pW x;have h1:=iL x;have h2:=DX x
   have hall:∀t∈x.aj,t.sz<=4194304:=fun t ht=>by have:=jP ht;omega
   have hr:=gW (l:=x.aj);have hso:=fun i=>xR i x.aj
   have hdl:∀i,(x.aj.drop i).length<=4194304:=fun i=>by rw[List.length_drop];omega
   have hda:∀i,∀t∈x.aj.drop i,t.sz<=4194304:=fun i t ht=>hall t (List.mem_of_mem_drop ht)
   have hg:uD false x.aj:=fun e=>by cases e.1
   refine zcx [.cell 2 33] func67 ntmps67 ?_;simp -implicitDefEqProofs (disch:=omega) only[go_sem]
   with_reducible refine aD (fun hb=> ?_) (fun hb=> ?_)<;>have h:=hb<;>(try simp only[wf_preprocess] at h)<;>simp -implicitDefEqProofs (disch:=omega) only[go_sem,hb]<;>(repeat(with_reducible refine And.intro ?_ ?_;focus first|omega|rfl|assumption|exact⟨_,rfl,rfl⟩|(simp;omega)|(simp;done)))
   ·have hne:=h;refine aA (KX x.aU (by omega)) ?_
    cases yC:fK x.aU with
    |some m=>
     simp -implicitDefEqProofs (disch:=omega) only[go_sem,Option.getD_some,Option.isSome_some];refine aA (Xr m) ?_;simp -implicitDefEqProofs (disch:=omega) only[go_sem];exact se0 (Rk hne yC)
    |none=>
     simp -implicitDefEqProofs (disch:=omega) only[go_sem,Option.getD_none,Option.isSome_none]
     with_reducible refine aD (fun hb=> ?_) (fun hb=> ?_)<;>have h:=hb<;>(try simp only[wf_preprocess] at h)<;>simp -implicitDefEqProofs (disch:=omega) only[go_sem,hb]<;>(repeat(with_reducible refine And.intro ?_ ?_;focus first|omega|rfl|assumption|exact⟨_,rfl,rfl⟩|(simp;omega)|(simp;done)))
     ·exact se0 (Nt hne yC h)
     have k1:=h
     with_reducible refine aD (fun hb=> ?_) (fun hb=> ?_)<;>have h:=hb<;>(try simp only[wf_preprocess] at h)<;>simp -implicitDefEqProofs (disch:=omega) only[go_sem,hb]<;>(repeat(with_reducible refine And.intro ?_ ?_;focus first|omega|rfl|assumption|exact⟨_,rfl,rfl⟩|(simp;omega)|(simp;done)))
     ·exact se0 (K4 hne yC k1 h)
     have k2:=h;refine aA (Tq _) ?_;simp -implicitDefEqProofs (disch:=omega) only[go_sem];exact se0 (Rl hne yC k1 k2)
   have ha:=h;have l0:=Xq x.aj 0 (by omega);have l1:=Xq x.aj 1 (by omega);have l2:=Xq x.aj 2 (by omega)
   have hm1:min (1:Int) (x.aj.length:Int)=((min 1 x.aj.length:Nat):Int):=by omega
   have hm2:min (2:Int) (x.aj.length:Int)=((min 2 x.aj.length:Nat):Int):=by omega
   have hm3:min (3:Int) (x.aj.length:Int)=((min 3 x.aj.length:Nat):Int):=by omega
   have hd:=fun i=>Tp x.aj i;have hdd:=qy x.aj x.aj.length 1 (Nat.le_refl _);simp -implicitDefEqProofs (disch:=omega) only[go_sem,l0,l1,l2]
   (repeat(with_reducible refine And.intro ?_ ?_;focus first|omega|rfl|assumption|exact⟨_,rfl,rfl⟩|(simp;omega)|(simp;done)))
   with_reducible refine aD (fun hb=> ?_) (fun hb=> ?_)<;>have h:=hb<;>(try simp only[wf_preprocess] at h)<;>simp -implicitDefEqProofs (disch:=omega) only[go_sem,hb,l0,l1,l2]<;>(repeat(with_reducible refine And.intro ?_ ?_;focus first|omega|rfl|assumption|exact⟨_,rfl,rfl⟩|(simp;omega)|(simp;done)))
   ·refine aA (qN _ _) ?_;rw[hm2];simp -implicitDefEqProofs (disch:=omega) only[go_sem];refine⟨⟨by omega,by omega,by omega,hr⟩,?_⟩;rw[hd];refine aA (nJ (x.aj.drop 2) (by have:=hso 2;omega) (hdl 2) (hda 2)) ?_;simp -implicitDefEqProofs (disch:=omega) only[go_sem];exact Ro (Nn ha hg h)
   have Xt:=h
   with_reducible refine aD (fun hb=> ?_) (fun hb=> ?_)<;>have h:=hb<;>(try simp only[wf_preprocess] at h)<;>simp -implicitDefEqProofs (disch:=omega) only[go_sem,hb,l0,l1,l2]<;>(repeat(with_reducible refine And.intro ?_ ?_;focus first|omega|rfl|assumption|exact⟨_,rfl,rfl⟩|(simp;omega)|(simp;done)))
   ·refine aA (qN _ _) ?_;rw[hm3];simp -implicitDefEqProofs (disch:=omega) only[go_sem];refine⟨⟨by omega,by omega,by omega,hr⟩,?_⟩;rw[hd];refine aA (nJ (x.aj.drop 3) (by have:=hso 3;omega) (hdl 3) (hda 3)) ?_;simp -implicitDefEqProofs (disch:=omega) only[go_sem];exact Ro (Ia ha hg h)
   have Gz:=h
   with_reducible refine aD (fun hb=> ?_) (fun hb=> ?_)<;>have h:=hb<;>(try simp only[wf_preprocess] at h)<;>simp -implicitDefEqProofs (disch:=omega) only[go_sem,hb,l0,l1,l2]<;>(repeat(with_reducible refine And.intro ?_ ?_;focus first|omega|rfl|assumption|exact⟨_,rfl,rfl⟩|(simp;omega)|(simp;done)))
   ·refine aA (qN _ _) ?_;rw[hm2];simp -implicitDefEqProofs (disch:=omega) only[go_sem];refine⟨⟨by omega,by omega,by omega,hr⟩,?_⟩;rw[hd];refine aA (nJ (x.aj.drop 2) (by have:=hso 2;omega) (hdl 2) (hda 2)) ?_;simp -implicitDefEqProofs (disch:=omega) only[go_sem];exact Ro (Rh ha hg h)
   have nNew:=h
   with_reducible refine aD (fun hb=> ?_) (fun hb=> ?_)<;>have h:=hb<;>(try simp only[wf_preprocess] at h)<;>simp -implicitDefEqProofs (disch:=omega) only[go_sem,hb,l0,l1,l2]<;>(repeat(with_reducible refine And.intro ?_ ?_;focus first|omega|rfl|assumption|exact⟨_,rfl,rfl⟩|(simp;omega)|(simp;done)))
   ·refine aA (qN _ _) ?_;rw[hm2];simp -implicitDefEqProofs (disch:=omega) only[go_sem];refine⟨⟨by omega,by omega,by omega,hr⟩,?_⟩;rw[hd];refine aA (nJ (x.aj.drop 2) (by have:=hso 2;omega) (hdl 2) (hda 2)) ?_;simp -implicitDefEqProofs (disch:=omega) only[go_sem];exact Ro (Ri ha hg h)
   have adj:=h
   with_reducible refine aD (fun hb=> ?_) (fun hb=> ?_)<;>have h:=hb<;>(try simp only[wf_preprocess] at h)<;>simp -implicitDefEqProofs (disch:=omega) only[go_sem,hb,l0,l1,l2]<;>(repeat(with_reducible refine And.intro ?_ ?_;focus first|omega|rfl|assumption|exact⟨_,rfl,rfl⟩|(simp;omega)|(simp;done)))
   ·have hpos:0<x.aj.length:=by
     rcases Nat.eq_zero_or_pos x.aj.length with e|e
     ·rw[CG (by omega)] at h;cases h
     ·exact e
    refine⟨⟨by omega,by omega,hr⟩,?_⟩;rw[hdd];refine aA (nJ (x.aj.drop 1) (by have:=hso 1;omega) (hdl 1) (hda 1)) ?_;simp -implicitDefEqProofs (disch:=omega) only[go_sem];exact Ro (Uu ha hg h)
   have nIf:=h
   with_reducible refine aD (fun hb=> ?_) (fun hb=> ?_)<;>have h:=hb<;>(try simp only[wf_preprocess] at h)<;>simp -implicitDefEqProofs (disch:=omega) only[go_sem,hb,l0,l1,l2]<;>(repeat(with_reducible refine And.intro ?_ ?_;focus first|omega|rfl|assumption|exact⟨_,rfl,rfl⟩|(simp;omega)|(simp;done)))
   ·refine aA (qN _ _) ?_;rw[hm2];simp -implicitDefEqProofs (disch:=omega) only[go_sem];refine⟨⟨by omega,by omega,by omega,hr⟩,?_⟩;rw[hd];refine aA (nJ (x.aj.drop 2) (by have:=hso 2;omega) (hdl 2) (hda 2)) ?_;simp -implicitDefEqProofs (disch:=omega) only[go_sem];exact Ro (Np ha hg h)
   have Xu:=h
   with_reducible refine aD (fun hb=> ?_) (fun hb=> ?_)<;>have h:=hb<;>(try simp only[wf_preprocess] at h)<;>simp -implicitDefEqProofs (disch:=omega) only[go_sem,hb,l0,l1,l2]<;>(repeat(with_reducible refine And.intro ?_ ?_;focus first|omega|rfl|assumption|exact⟨_,rfl,rfl⟩|(simp;omega)|(simp;done)))
   ·refine aA (wG (x.aj.getD 1 eH) (Ay x 1 hsz)) ?_;simp -implicitDefEqProofs (disch:=omega) only[go_sem];refine aA (qN _ _) ?_;rw[hm2];simp -implicitDefEqProofs (disch:=omega) only[go_sem];refine⟨⟨by omega,by omega,by omega,hr⟩,?_⟩;rw[hd];refine aA (nJ (x.aj.drop 2) (by have:=hso 2;omega) (hdl 2) (hda 2)) ?_;simp -implicitDefEqProofs (disch:=omega) only[go_sem];exact se2 (Rj ha hg h)
   have nThe:=h
   with_reducible refine aD (fun hb=> ?_) (fun hb=> ?_)<;>have h:=hb<;>(try simp only[wf_preprocess] at h)<;>simp -implicitDefEqProofs (disch:=omega) only[go_sem,hb,l0,l1,l2]<;>(repeat(with_reducible refine And.intro ?_ ?_;focus first|omega|rfl|assumption|exact⟨_,rfl,rfl⟩|(simp;omega)|(simp;done)))
   ·have hpos:0<x.aj.length:=by
     rcases Nat.eq_zero_or_pos x.aj.length with e|e
     ·rw[CG (by omega)] at h;cases h
     ·exact e
    have hdec:=Nq ha hg h;refine aA (qN _ _) ?_;rw[hm2];simp -implicitDefEqProofs (disch:=omega) only[go_sem];refine⟨⟨by omega,by omega,hr⟩,?_⟩;rw[afs];refine aA (nJ ((x.aj.drop 1).take 1) (by have:=hso 1;have:=BN 1 (x.aj.drop 1);omega) (by rw[List.length_take];omega) (fun t ht=>hda 1 t (List.mem_of_mem_take ht))) ?_;simp -implicitDefEqProofs (disch:=omega) only[go_sem];obtain⟨vP,Xv⟩:∃vP,vP=((x.aj.drop 1).take 1).map (dU false):=⟨_,rfl⟩;obtain⟨T,hT⟩:∃T:Nat->List (List D),T=fun k=>(((x.aj.drop 2).map (nX false)).take k).map aP.enc:=⟨_,rfl⟩
    have hT0:T 0=[]:=by rw[hT];rfl
    have lF:∀k,(T k).length<=k:=fun k=>by rw[hT];simp only[List.length_map];exact List.length_take_le _ _
    have hTs:∀k (hk:k+2<x.aj.length),T k++[(nX false x.aj[k+2]).enc]=T (k+1):=fun k hk=>by
     have:=aad (l:=(x.aj.drop 2).map (nX false)) (i:=k) (by rw[List.length_map,List.length_drop];omega);rw[List.getElem_map,List.getElem_drop] at this;rw[hT];simp only[Nat.add_comm 2 k] at this ⊢;exact this
    have hTe:T (x.aj.length-2)=((x.aj.drop 2).map (nX false)).map aP.enc:=by
     rw[hT];simp only
     rw[List.take_of_length_le (by simp)]
    clear hT;rw[<-Xv] at hdec ⊢;refine yD 3 8 11 _ rfl rfl ?_
    refine bF (ι:=Nat) zmx rfl [1,2,6,8,9] (fun k=>[.c (.ptr (0,0) 0),.c (.ptr (0,1) 0),.c (.d (.i .i64 x.aj.length)),.c (.ptr (0,3) 0),.c (.d (.i .i64 ((k+2:Nat):Int)))])
     (fun k=>[.box [.d (.s x.aU),.d (.sl (x.aj.map ah.enc))],.box [.d (.i .i64 0),.d (.s []),.d (.s []),.d (.i .i64 0),.d (.i .i64 0),.d (.s []),.bE [],.bE [],.bE []],.tok 2 (x.aj.map ah.enc++[[.s [],.sl []],[.s [],.sl []],[.s [],.sl []]]),
       .box [.d (.i .i64 7),.d (.s []),.d (.s []),.d (.i .i64 0),.d (.i .i64 0),.d (.s []),.bE [],.d (.sl (vP.map aC.enc)),.bK (0,4) (T k)],.tok 11 (T k)]::S)
     (fun k=>k<=x.aj.length-2) (fun k=>x.aj.length-(k+2)) 0 rfl (by rw[hT0];rfl) (Nat.zero_le _) ?_
    intro k hk;have hlk:=lF k;clear l0 l1 l2;simp -implicitDefEqProofs (disch:=omega) only[go_sem]
    with_reducible refine aD (fun hb=> ?_) (fun hb=> ?_)<;>have h:=hb<;>(try simp only[wf_preprocess] at h)<;>simp -implicitDefEqProofs (disch:=omega) only[go_sem,hb]<;>(repeat(with_reducible refine And.intro ?_ ?_;focus first|omega|rfl|assumption|exact⟨_,rfl,rfl⟩|(simp;omega)|(simp;done)))
    ·have hk':k+2<x.aj.length:=by omega
     have hm:=List.getElem_mem hk';have hs:=hTs k hk';simp only[aP.aB,aC.aB,au.aB,List.cons_append,List.nil_append] at hs
     (repeat(with_reducible refine And.intro ?_ ?_;focus first|omega|rfl|assumption|exact⟨_,rfl,rfl⟩|(simp;omega)|(simp;done)))
     refine aA (ihM x.aj[k+2] (by have:=List.sizeOf_lt_of_mem hm;omega) (hall _ hm)) ?_;simp -implicitDefEqProofs (disch:=omega) only[go_sem]
     (repeat(with_reducible refine And.intro ?_ ?_;focus first|omega|rfl|assumption|exact⟨_,rfl,rfl⟩|(simp;omega)|(simp;done)))
     rw[hs];exact dG (k+1) (by omega) rfl rfl (by omega)
    ·have hk':k=x.aj.length-2:=by omega
     subst hk';rw[hTe];exact se3 hdec
   have Xw:=h;refine aA (qN _ _) ?_;rw[hm1];simp -implicitDefEqProofs (disch:=omega) only[go_sem];refine⟨⟨by omega,by omega,by omega,hr⟩,?_⟩;rw[hd];refine aA (nJ (x.aj.drop 1) (by have:=hso 1;omega) (hdl 1) (hda 1)) ?_;simp -implicitDefEqProofs (disch:=omega) only[go_sem];exact Ro (Nr ha hg Xt nNew adj Xu Gz nIf nThe Xw)
  ·have zm:=fun(i:Nat) (hi:i<xs.length)=>aac (l:=xs.map (dU false)) (i:=i) (by rw[List.length_map];exact hi);refine zcx [.tmp 2] func143 ntmps143 ?_;simp -implicitDefEqProofs (disch:=omega) only[go_sem]
   (repeat(with_reducible refine And.intro ?_ ?_;focus first|omega|rfl|assumption|exact⟨_,rfl,rfl⟩|(simp;omega)|(simp;done)))
   refine yg 3 9 [] rfl (by simp) ?_
   refine bF (ι:=Nat) zmx rfl [0,3,4] (fun i=>[.c (.d (.sl (xs.map ah.enc))),.c (.bK (0,0) (((xs.map (dU false)).take i).map aC.enc)),.c (.d (.i .i64 i))]) (fun i=>[.tok 9 (((xs.map (dU false)).take i).map aC.enc)]::S)
    (fun i=>i<=xs.length) (fun i=>xs.length-i) 0 rfl rfl (Nat.zero_le _) ?_
   intro i hi
   have hl:(((xs.map (dU false)).take i).map aC.enc).length<=i:=by rw[List.length_map];exact List.length_take_le _ _
   simp -implicitDefEqProofs (disch:=omega) only[go_sem]
   with_reducible refine aD (fun hb=> ?_) (fun hb=> ?_)<;>have h:=hb<;>(try simp only[wf_preprocess] at h)<;>simp -implicitDefEqProofs (disch:=omega) only[go_sem,hb]<;>(repeat(with_reducible refine And.intro ?_ ?_;focus first|omega|rfl|assumption|exact⟨_,rfl,rfl⟩|(simp;omega)|(simp;done)))
   ·have hi':i<xs.length:=by omega
    have hs:=zm i hi';rw[List.getElem_map] at hs;simp only[aC.aB,au.aB,List.cons_append,List.nil_append] at hs
    (repeat(with_reducible refine And.intro ?_ ?_;focus first|omega|rfl|assumption|exact⟨_,rfl,rfl⟩|(simp;omega)|(simp;done)))
    refine aA (ih xs[i] (by have:=List.sizeOf_lt_of_mem (List.getElem_mem hi');omega) (hsz _ (List.getElem_mem hi'))) ?_;simp -implicitDefEqProofs (disch:=omega) only[go_sem]
    (repeat(with_reducible refine And.intro ?_ ?_;focus first|omega|rfl|assumption|exact⟨_,rfl,rfl⟩|(simp;omega)|(simp;done)))
    rw[hs];exact dG (i+1) (by omega) rfl rfl (by omega)
   ·have hi':i=(xs.map (dU false)).length:=by rw[List.length_map];omega
    rw[hi',List.take_length]
  ·have jA:=ah.pW x;have h1:=iL x
   have hall:∀t∈x.aj,t.sz<=4194304:=fun t ht=>by have:=jP ht;omega
   have hr:=gW (l:=x.aj);refine zcx [.cell 2 124] func145 ntmps145 ?_;simp -implicitDefEqProofs (disch:=omega) only[go_sem]
   with_reducible refine aD (fun hb=> ?_) (fun hb=> ?_)<;>have h:=hb<;>(try simp only[wf_preprocess] at h)<;>simp -implicitDefEqProofs (disch:=omega) only[go_sem,hb]<;>(repeat(with_reducible refine And.intro ?_ ?_;focus first|omega|rfl|assumption|exact⟨_,rfl,rfl⟩|(simp;omega)|(simp;done)))
   ·rw[Ut false x (by omega)];exact(eY.cons (.refl _) (.cons (iF _) (.cons (.refl _) (.cons (.refl _) (.cons (.refl _) (.cons (.refl _) (.cons (.refl _) (.cons (.refl _) (.cons (iF _) (.cons (iF _) (.cons (iF _) .nil))))))))))).less
   have hl2:2<=x.aj.length:=by omega
   have a0:=mX (l:=x.aj) (i:=0) (by omega);have hm:=List.getElem_mem (l:=x.aj) (n:=x.aj.length-1) (by omega);rw[Us false x hl2,a0];refine⟨⟨by omega,by omega,hr⟩,?_⟩;rw[Nu _ hl2];refine aA (FR ((x.aj.drop 1).dropLast) (by rw[List.length_dropLast,List.length_drop];omega)) ?_;simp -implicitDefEqProofs (disch:=omega) only[go_sem]
   (repeat(with_reducible refine And.intro ?_ ?_;focus first|omega|rfl|assumption|exact⟨_,rfl,rfl⟩|(simp;omega)|(simp;done)))
   have el:((x.aj.length:Int)-1).toNat=x.aj.length-1:=by omega
   simp only[el];refine aA (ih (x.aj[x.aj.length-1]) (by have:=List.sizeOf_lt_of_mem hm;omega) (hall _ hm)) ?_;simp -implicitDefEqProofs (disch:=omega) only[go_sem];exact jL _
theorem Tt(x:ah)(hsz:x.sz<=4194304):aJ prog 67 [x.v] (dU false x).v:=(FU _).1 x (Nat.lt_succ_self _) hsz
end Go.Ab