/-
  SEVERAL TEXTS IN ONE (merged by program): contracts and models, each with its own heading.
-/
import Derived.Test.YtnceiannponbjaaGreatDoorPartDkbI
import Derived.Test.YtnceiannponbjaaGreatDoorPartDkbK
import Derived.Test.YtnceiannponbjaaGreatDoorPartDkbQ
import Derived.Lib.Atoi
set_option maxHeartbeats 8000000
open Go.Proofs Go.Proofs.Tryz
set_option linter.unusedSimpArgs false
set_option linter.unusedVariables false
set_option maxRecDepth 4000
namespace Go.Ab
def dB(l:List ah)(i:Nat):List UInt8:=(l.getD i eH).aQ
theorem lK{l:List ah}{i:Nat}(h:i<l.length):dB l i=l[i].aQ:=by simp[dB,List.getD,h]
theorem Bt{l:List ah}{i:Nat}(h:l.length<=i):dB l i=[]:=by simp[dB,List.getD,h];rfl
def fC(l:List ah):List (List UInt8):=if l.all (fun x=>decide (x.aQ≠[]))=true then l.map ah.aQ else []
theorem u6:∀{vs:List (List UInt8)},(∀v∈vs,v≠[])->fC (aP vs)=vs:=fun {vs} h=>by
 unfold fC aP;rw[if_pos (List.all_eq_true.2 fun x hx=> ?_),List.map_map]
 ·conv=>rhs;rw[<-List.map_id vs]
  rfl
 ·obtain⟨v,hv,rfl⟩:=List.mem_map.1 hx;exact decide_eq_true (h v hv)
theorem PO:∀l:List ah,((l.map ah.aQ).map List.length).sum<=dG l
 |[]=>by simp[dG]
 |x::l=>by
  have:=PO l;rw[List.map_cons,List.map_cons,List.sum_cons,dG,gY];omega
theorem z8(l:List ah):(fC l).length<=l.length/\((fC l).map List.length).sum<=dG l:=by
 unfold fC;split
 ·refine⟨by simp,?_⟩;exact PO l
 ·simp
mutual
def dI(b:Bool):ah->ak
 | .mk a l=>if a=[] then
    if l.length<2 then .mk 0 [] []
    else if dB l 0=Cg/\(b=true\/l.length=2/\dB l 1≠[]) then .mk 4 (dB l 1) []
    else if dB l 0=fT/\(b=true\/l.length=3/\dB l 1≠[]) then .mk 3 (dB l 1) ((mQ b l).drop 2)
    else .mk 2 (dB l 0) ((mQ b l).drop 1)
   else if a.head? =some 39 then .mk 1 a.tail [] else .mk 2 a []
def mQ(b:Bool):List ah->List ak
 |[]=>[]
 |x::xs=>dI b x::mQ b xs
end
theorem wW(b:Bool):∀l,mQ b l=l.map (dI b)
 |[]=>rfl
 |t::ts=>by rw[mQ,List.map_cons,wW b ts]
theorem SL(b:Bool)(x:ah):dI b x=if x.aQ=[] then
 if x.aj.length<2 then .mk 0 [] []
 else if dB x.aj 0=Cg/\(b=true\/x.aj.length=2/\dB x.aj 1≠[]) then .mk 4 (dB x.aj 1) []
 else if dB x.aj 0=fT/\(b=true\/x.aj.length=3/\dB x.aj 1≠[]) then .mk 3 (dB x.aj 1) ((x.aj.map (dI b)).drop 2)
 else .mk 2 (dB x.aj 0) ((x.aj.map (dI b)).drop 1)
 else if x.aQ.head? =some 39 then .mk 1 x.aQ.tail [] else .mk 2 x.aQ []:=by
 cases x;rw[dI,wW];rfl
theorem JO:∀a b,qP (a++b)=qP a+qP b
 |[],b=>by simp[qP]
 |x::a,b=>by rw[List.cons_append,qP,qP,JO a b];omega
theorem PS(l:List ak)(i:Nat):qP (l.drop i)<=qP l:=by
 have:=JO (l.take i) (l.drop i);rw[List.take_append_drop] at this;omega
theorem Y0(l:List ah)(i:Nat):(dB l i).length<=dG l:=by
 by_cases h:i<l.length
 ·rw[lK h];have h1:=jL (List.getElem_mem h);rw[gY] at h1;omega
 ·rw[Bt (by omega)];simp
mutual
theorem KP(b:Bool):∀x:ah,(dI b x).sz<=x.sz
 | .mk a l=>by
   have h1:=CF b l;have h2:=PS (mQ b l) 2;have h3:=PS (mQ b l) 1;have h4:=Y0 l 0;have h5:=Y0 l 1
   have h6:(mQ b l).length=l.length:=by rw[wW,List.length_map]
   rw[gY,jC];simp only[ah.aQ,ah.aj];rw[dI];split
   ·split
    ·rw[rF];simp[ak.fName,ak.fArgs,qP]
    ·split
     ·rw[rF];simp[ak.fName,ak.fArgs,qP];omega
     ·have g0:=Es b l 0;have g1:=Es b l 1;simp only[Nat.zero_add,Nat.reduceAdd] at g0 g1;split
      ·rw[rF];simp only[ak.fName,ak.fArgs,List.length_drop,h6];omega
      ·rw[rF];simp only[ak.fName,ak.fArgs,List.length_drop,h6];omega
   ·split
    ·rw[rF];simp[ak.fName,ak.fArgs,qP];omega
    ·rw[rF];simp[ak.fName,ak.fArgs,qP]
theorem CF(b:Bool):∀l:List ah,qP (mQ b l)<=dG l
 |[]=>by simp[mQ,qP]
 |x::xs=>by
  have h1:=KP b x;have h2:=CF b xs;rw[mQ,qP,dG];omega
theorem Es(b:Bool):∀(l:List ah)(i:Nat),qP ((mQ b l).drop (i+1))+(dB l i).length<=dG l
 |[],i=>by simp[mQ,qP,Bt]
 |x::xs,0=>by
  have h2:=CF b xs;rw[mQ,List.drop_succ_cons,List.drop_zero,dG,show dB (x::xs) 0=x.aQ from rfl,gY];omega
 |x::xs,i+1=>by
  have h2:=Es b xs i;rw[mQ,List.drop_succ_cons,dG,show dB (x::xs) (i+1)=dB xs i from rfl];omega
end
theorem Bu{s:List UInt8}(h:validName s=true):s≠[]:=fun e=>by rw[e] at h;have:=iX h;simp at this
theorem Y1{s:List UInt8}(h:validName s=true):s.head? ≠some 39:=fun e=>by
 have h1:=iX h;have h2:=h1.2.2 0 (by omega)
 cases s with
 |nil=>cases e
 |cons c s=>
  simp only[List.head?_cons,Option.some.injEq] at e;subst e;simp[lowerB,nV] at h2
theorem ab7{s:List UInt8}(h:validName s=true):s≠Cg/\s≠fT:=by
 have h1:=(iX h).2.1;refine⟨fun e=>h1 (by rw[e];simp[reserved,Cg]),fun e=>h1 (by rw[e];simp[reserved,fT])⟩
mutual
theorem Fx(b:Bool):∀t:ak,formed t=true->dI b (dK t)=t
 | .mk k n zs=>fun hf=>by
   rw[formed,Bool.and_eq_true] at hf;have hfi:=iX hf.1;have hzs:=G8 b zs hf.2;rw[dK];by_cases h1:k=1
   ·have hz:zs=[]:=by
     have:zs.length=0:=by omega
     exact List.eq_nil_of_length_eq_zero this
    rw[if_pos h1,bn,dI,if_neg (by simp),if_pos (by simp),hz,h1];rfl
   rw[if_neg h1];by_cases h4:k=4
   ·have hz:zs=[]:=by
     have:zs.length=0:=by omega
     exact List.eq_nil_of_length_eq_zero this
    have hn:validName n=true:=by
     rcases hfi with h|h|h
     ·exact h.2.1
     ·exact h.2.1
     ·omega
    rw[if_pos h4,dA,dI,if_pos rfl,if_neg (by simp),if_pos ⟨rfl,.inr ⟨rfl,Bu hn⟩⟩,hz,h4];rfl
   rw[if_neg h4];by_cases h2:k=2/\zs.length=0
   ·have hz:zs=[]:=List.eq_nil_of_length_eq_zero h2.2
    have hn:n≠[]/\n.head? ≠some 39:=by
     rcases hfi with h|h|h
     ·omega
     ·omega
     ·rcases h.2 with g|g
      ·exact⟨Bu g.1,Y1 g.1⟩
      ·rcases iX g.1 with e|e<;>rw[e]<;>simp
    rw[if_pos h2,bn,dI,if_neg hn.1,if_neg hn.2,hz,h2.1]
   rw[if_neg h2];by_cases h3:k=3
   ·have hz:zs.length=1/\validName n=true:=by
     rcases hfi with h|h|h
     ·omega
     ·exact⟨h.2.2,h.2.1⟩
     ·omega
    rw[if_pos h3,dA,dI,if_pos rfl,if_neg (by simp),if_neg (fun h=>by have:=h.1;simp[dB,bn,ah.aQ,Cg,fT] at this),if_pos ⟨rfl,.inr ⟨by rw[rE];simp[hz.1],Bu hz.2⟩⟩];show ak.mk 3 n (mQ b (zm zs))=_;rw[hzs,h3]
   ·have hn:validName n=true/\zs≠[]:=by
     rcases hfi with h|h|h
     ·omega
     ·omega
     ·rcases h.2 with g|g
      ·exact⟨g.1,fun e=>h2 ⟨h.1,by rw[e];rfl⟩⟩
      ·exact(h2 ⟨h.1,g.2⟩).elim
    have hk:k=2:=by
     rcases hfi with h|h|h
     ·omega
     ·omega
     ·exact h.1
    have hd:=ab7 hn.1;rw[if_neg h3,dA,dI,if_pos rfl,if_neg (by rw[rE];cases zs with|nil=>exact(hn.2 rfl).elim|cons z zs=>simp),if_neg (fun h=>hd.1 h.1),if_neg (fun h=>hd.2 h.1)];show ak.mk 2 n (mQ b (zm zs))=_;rw[hzs,hk]
theorem G8(b:Bool):∀ts:List ak,gQ ts=true->mQ b (zm ts)=ts
 |[],_=>rfl
 |t::ts,h=>by
  rw[gQ,Bool.and_eq_true] at h;rw[zm,mQ,Fx b t h.1,G8 b ts h.2]
end
theorem Gb(b:Bool){ts:List ak}(h:gQ ts=true):(ts.map dK).map (dI b)=ts:=by
 have:=G8 b ts h;rw[wW,rE] at this;exact this
theorem KQ{vs:List (List UInt8)}(h:jv vs=true):∀v∈vs,v≠[]:=fun v hv=>by
 unfold jv at h;rw[Bool.and_eq_true] at h;exact Bu (List.all_eq_true.1 h.2 v hv)
theorem G9:eH.sz=0:=by rw[gY];simp[eH,ah.aQ,ah.aj,bC]
theorem ab8{b:Bool}{s x:ah}(h:uU b s=x)(hx:x.aj≠[]):b=true/\s=x/\iK x=true:=by
 cases b with
 |false=>rw[<-h] at hx;exact(hx rfl).elim
 |true=>
  rw[uU] at h;unfold Bg at h;split at h
  ·rename_i hv;exact⟨rfl,h,by rw[<-h];exact hv⟩
  ·rw[<-h] at hx;exact(hx rfl).elim
theorem Gc(d:Nat)(h:d<10):Lib.digitVal (UInt8.ofNat (48+d))=some d:=by
 have:(UInt8.ofNat (48+d)).toNat=48+d:=by rw[UInt8.toNat_ofNat'];omega
 unfold Lib.digitVal;rw[this,if_pos (by omega)];congr 1;omega
theorem zw:∀(l:List UInt8)(acc:Nat)(b:UInt8),Lib.decFrom acc (l++[b])=(Lib.decFrom acc l).bind fun m=>(Lib.digitVal b).map fun d=>m*10+d
 |[],acc,b=>by
  rw[List.nil_append,Lib.decFrom,Lib.decFrom];cases Lib.digitVal b<;>rfl
 |a::l,acc,b=>by
  rw[List.cons_append,Lib.decFrom,Lib.decFrom]
  cases Lib.digitVal a with
  |none=>rfl
  |some e=>exact zw l _ b
theorem vS(n:Nat):Lib.decFrom 0 (Lib.decDigits n)=some n:=by
 induction n using Nat.strongRecOn with
 |_ n ih=>
  rw[Lib.decDigits];split
  ·rename_i h;rw[Lib.decFrom,Gc n h];simp[Lib.decFrom]
  ·rename_i h;rw[zw,ih (n/10) (by omega),Gc _ (Nat.mod_lt _ (by decide))];simp only[Option.bind_some,Option.map_some,Option.some.injEq];omega
theorem vT(n:Nat):∃b r,Lib.decDigits n=b::r/\48<=b.toNat/\b.toNat<=57:=by
 induction n using Nat.strongRecOn with
 |_ n ih=>
  rw[Lib.decDigits];split
  ·rename_i h;exact⟨_,_,rfl,by rw[UInt8.toNat_ofNat'];omega,by rw[UInt8.toNat_ofNat'];omega⟩
  ·rename_i h;obtain⟨b,r,e,h1,h2⟩:=ih (n/10) (by omega);rw[e];exact⟨b,r++_,rfl,h1,h2⟩
theorem C9(n:Nat):Lib.decNat (Lib.decDigits n)=some n:=by
 obtain⟨b,r,e,_⟩:=vT n;unfold Lib.decNat;rw[show(Lib.decDigits n).isEmpty=false from by rw[e];rfl];exact vS n
theorem Et(b:UInt8)(r:List UInt8):Lib.atoi (b::r)=if b==45 then(Lib.decNat r).map fun(m:Nat)=> -(m:Int) else if b==43 then(Lib.decNat r).map fun(m:Nat)=>(m:Int) else(Lib.decNat (b::r)).map fun(m:Nat)=>(m:Int):=rfl
theorem Ma(n:Int):Lib.atoi (Lib.itoa n)=some n:=by
 unfold Lib.itoa;split
 ·rename_i h;show Lib.atoi (45::Lib.decDigits n.natAbs)=_;rw[Et,if_pos (by decide),C9];simp only[Option.map_some,Option.some.injEq];omega
 ·rename_i h;obtain⟨b,r,e,h1,h2⟩:=vT n.toNat;have hd:=C9 n.toNat;rw[e] at hd ⊢;rw[Et,if_neg (by simp only[beq_iff_eq];intro h;rw[h] at h1;revert h1;decide),if_neg (by simp only[beq_iff_eq];intro h;rw[h] at h1;revert h1;decide),hd];simp only[Option.map_some,Option.some.injEq];omega
theorem aes(n:Int):Lib.itoa n≠[]:=fun e=>by
 have:=Ma n;rw[e] at this;cases this
def fF(s:List UInt8):Option Int:=match Lib.atoi s with
 |some n=>if(-999999999999<=n/\n<=999999999999)/\Lib.itoa n=s then some n else none
 |none=>none
theorem JQ{n:Int}(h: -999999999999<=n/\n<=999999999999):fF (Lib.itoa n)=some n:=by
 unfold fF;rw[Ma];exact if_pos ⟨h,rfl⟩
theorem JR{s:List UInt8}{n:Int}(h:fF s=some n):(-999999999999<=n/\n<=999999999999)/\Lib.itoa n=s:=by
 unfold fF at h;split at h
 ·split at h
  ·cases h;assumption
  ·cases h
 ·cases h
theorem zx{b:UInt8}{r:List UInt8}(h:lowerB b):fF (b::r)=none:=by
 have h1:(b==45)=false:=by simp only[beq_eq_false_iff_ne];intro e;rw[e] at h;revert h;simp[lowerB]
 have h2:(b==43)=false:=by simp only[beq_eq_false_iff_ne];intro e;rw[e] at h;revert h;simp[lowerB]
 have h3:Lib.digitVal b=none:=if_neg (fun x=>by unfold lowerB at h;omega);unfold fF;rw[Et,h1,h2];simp[Lib.decNat,Lib.decFrom,h3]
theorem VY{s:List UInt8}(h:validName s=true):fF s=none:=by
 have h1:=iX h;have h2:=h1.2.2 0 (by omega)
 cases s with
 |nil=>simp at h1
 |cons b r=>
  rcases h2 with h2|h2
  ·exact zx h2
  ·exact(h2.1 rfl).elim
def jo:ak:=.mk 0 [] []
def lF:ay:=.mk 0 [] [] 0 jo [] []
mutual
def dN(b:Bool):ah->ay
 | .mk a l=>if a=[] then
    if b=true/\(l.length<2\/dB l 0=gJ/\l.length<3) then lF
    else if dB l 0=lW then .mk 4 [] (dB l 1) 0 jo ((dY b l).drop 2) []
    else if dB l 0=oC then .mk 6 [] (dB l 1) 0 jo ((dY b l).drop 2) []
    else if dB l 0=oD then .mk 8 [] (dB l 1) 0 jo ((dY b l).drop 2) []
    else if dB l 0=lX then .mk 11 (dB l 1) [] 0 jo ((dY b l).drop 2) []
    else if dB l 0=gJ then .mk 5 (dB l 1) (dB l 2) 0 jo ((dY b l).drop 3) []
    else if dB l 0=sD then .mk 9 [] [] 0 jo ((dY b l).drop 1) []
    else if dB l 0=pq then .mk 12 [] [] 0 (dI b (l.getD 1 eH)) ((dY b l).drop 2) []
    else if dB l 0=jf then .mk 7 [] [] 0 jo (((dY b l).drop 1).take 1) ((kX b l).drop 2)
    else .mk 10 [] (dB l 0) 0 jo ((dY b l).drop 1) []
   else match fF a with
    |some n=>.mk 1 [] [] n jo [] []
    |none=>if a=wu then .mk 2 [] [] 1 jo [] [] else if a=uY then .mk 2 [] [] 0 jo [] [] else .mk 3 [] a 0 jo [] []
def dY(b:Bool):List ah->List ay
 |[]=>[]
 |x::xs=>dN b x::dY b xs
def nG(b:Bool):ah->aM
 | .mk a l=>if l.length<2 then .mk [] [] lF else .mk (dB l 0) (fC ((l.drop 1).dropLast)) ((dY b l).getLastD lF)
def kX(b:Bool):List ah->List aM
 |[]=>[]
 |x::xs=>nG b x::kX b xs
end
theorem wX(b:Bool):∀l,dY b l=l.map (dN b)
 |[]=>rfl
 |t::ts=>by rw[dY,List.map_cons,wX b ts]
theorem Aa(b:Bool):∀l,kX b l=l.map (nG b)
 |[]=>rfl
 |t::ts=>by rw[kX,List.map_cons,Aa b ts]
theorem jO(b:Bool)(l m:List ah):dY b (l++m)=dY b l++dY b m:=by simp only[wX,List.map_append]
theorem nH(b:Bool)(l m:List ah):kX b (l++m)=kX b l++kX b m:=by simp only[Aa,List.map_append]
theorem pE{t:ak}(h:zV t):t=jo:=ak.ext h.1 h.2.1 (List.eq_nil_of_length_eq_zero h.2.2)
theorem RB{s:List UInt8}(h:s∈ops):s≠[]/\∀w∈[lW,oC,oD,lX,gJ,sD,pq,jf],s≠w:=by
 have:=Yn h;refine⟨fun e=>by rw[e] at this;simp at this,fun w hw e=> ?_⟩;rw[e] at this;simp only[List.mem_cons,List.not_mem_nil,or_false] at hw;rcases hw with g|g|g|g|g|g|g|g<;>rw[g] at this<;>revert this<;>decide
mutual
theorem KR(b:Bool):∀e:ay,ig e=true->dN b (dZ e)=e
 | .mk k tr nm n ty zs ms=>fun hok=>by
   rw[ig,Bool.and_eq_true,Bool.and_eq_true] at hok;have hf:=iX hok.1;have h1:=PU b zs hok.2.1;have h2:=PV b ms hok.2.2;obtain⟨p0,p1,p2,p3,p4,p5,p6⟩:=hf;simp only[ay.aL,ay.bE,ay.fName,ay.fN,ay.fType,ay.fArgs,ay.aK] at p0 p1 p2 p3 p4 p5 p6;have nz:∀{l:List ay},l.length=0->l=[]:=fun h=>List.eq_nil_of_length_eq_zero h
   have Eu:k≠7->ms=[]:=fun h=>List.eq_nil_of_length_eq_zero (by
    have:¬0<ms.length:=fun x=>h (p6.2 x)
    omega)
   have hk:k=1\/k=2\/k=3\/k=4\/k=5\/k=6\/k=7\/k=8\/k=9\/k=10\/k=11\/k=12:=by omega
   rcases hk with rfl|rfl|rfl|rfl|rfl|rfl|rfl|rfl|rfl|rfl|rfl|rfl
   all_goals simp only[if_true,if_false,true_or,or_true,false_or,or_false,or_self,(by decide:(1:Int)=5<->False),Int.reduceEq] at p1 p2 p3 p4 p5
   ·have e1:=pE p4;have e2:=nz p5;have e3:=Eu (by decide);subst e1 e2 e3 p1 p2;rw[dZ,if_pos rfl,bn,dN,if_neg (aes n),JQ (by omega)]
   ·have e1:=pE p4;have e2:=nz p5;have e3:=Eu (by decide);subst e1 e2 e3 p1 p2;rw[dZ,if_neg (by decide),if_pos rfl,bn,dN];rcases p3 with rfl|rfl
    ·rw[if_neg (by decide:¬(0:Int)=1),if_neg (by decide),show fF uY=none from zx (by simp[lowerB]),if_neg (by decide),if_pos rfl]
    ·rw[if_pos rfl,if_neg (by decide),show fF wu=none from zx (by simp[lowerB]),if_pos rfl]
   ·have e1:=pE p4;have e2:=nz p5;have e3:=Eu (by decide);subst e1 e2 e3 p1 p3;have hr:=(iX p2).2.1;rw[dZ,if_neg (by decide),if_neg (by decide),if_pos rfl,bn,dN,if_neg (Bu p2),VY p2,if_neg (fun e=>hr (by rw[e];simp[reserved,wu])),if_neg (fun e=>hr (by rw[e];simp[reserved,uY]))]
   all_goals have hz:(xH zs).length=zs.length:=by rw[zo,List.length_map]
   ·have e1:=pE p4;have e3:=Eu (by decide);subst e1 e3 p1 p3;simp[dZ,gF,dA,aP,dN,dY,jO,kX,nH,dB,bn,ah.aQ,lW,gJ,oC,jf,oD,sD,lX,pq,h1,hz,h2]
    all_goals (intros;omega)
   ·have e1:=pE p4;have e3:=Eu (by decide);subst e1 e3 p3;simp[dZ,gF,dA,aP,dN,dY,jO,kX,nH,dB,bn,ah.aQ,lW,gJ,oC,jf,oD,sD,lX,pq,h1,hz,h2]
    all_goals (intros;omega)
   ·have e1:=pE p4;have e3:=Eu (by decide);subst e1 e3 p1 p3;simp[dZ,gF,dA,aP,dN,dY,jO,kX,nH,dB,bn,ah.aQ,lW,gJ,oC,jf,oD,sD,lX,pq,h1,hz,h2]
    all_goals (intros;omega)
   ·have e1:=pE p4;subst e1 p1 p2 p3;have hm:0<ms.length:=p6.1 rfl
    obtain⟨z,rfl⟩:∃z,zs=[z]:=by
     cases zs with
     |nil=>simp at p5
     |cons z t=>cases t with
      |nil=>exact⟨z,rfl⟩
      |cons _ _=>simp at p5
    simp only[xH,dY,List.cons.injEq,and_true] at h1;simp[dZ,gF,dA,aP,dN,dY,jO,kX,nH,xH,dB,bn,ah.aQ,lW,gJ,oC,jf,oD,sD,lX,pq,h1,h2]
    all_goals (intros;omega)
   ·have e1:=pE p4;have e3:=Eu (by decide);subst e1 e3 p1 p3;simp[dZ,gF,dA,aP,dN,dY,jO,kX,nH,dB,bn,ah.aQ,lW,gJ,oC,jf,oD,sD,lX,pq,h1,hz,h2]
    all_goals (intros;omega)
   ·have e1:=pE p4;have e3:=Eu (by decide);subst e1 e3 p1 p2 p3;simp[dZ,gF,dA,aP,dN,dY,jO,kX,nH,dB,bn,ah.aQ,lW,gJ,oC,jf,oD,sD,lX,pq,h1,hz,h2]
    all_goals (intros;omega)
   ·have e1:=pE p4;have e3:=Eu (by decide);subst e1 e3 p1 p3;have ho:=RB p2;simp only[List.mem_cons,List.not_mem_nil,or_false,ne_eq,forall_eq_or_imp,forall_eq] at ho;obtain⟨_,o1,o2,o3,o4,o5,o6,o7,o8⟩:=ho;simp[dZ,gF,dA,aP,dN,dY,jO,dB,bn,ah.aQ,h1,hz,o1,o2,o3,o4,o5,o6,o7,o8]
    all_goals (intros;omega)
   ·have e1:=pE p4;have e3:=Eu (by decide);subst e1 e3 p2 p3;simp[dZ,gF,dA,aP,dN,dY,jO,kX,nH,dB,bn,ah.aQ,lW,gJ,oC,jf,oD,sD,lX,pq,h1,hz,h2]
    all_goals (intros;omega)
   ·have e3:=Eu (by decide);subst e3 p1 p2 p3;have ht:=Fx b ty (uT p4);simp[dZ,gF,dA,aP,dN,dY,jO,dB,bn,ah.aQ,lW,gJ,oC,jf,oD,sD,lX,pq,h1,hz,ht]
    all_goals (intros;omega)
theorem PU(b:Bool):∀es:List ay,jK es=true->dY b (xH es)=es
 |[],_=>rfl
 |t::ts,h=>by
  rw[jK,Bool.and_eq_true] at h;rw[xH,dY,KR b t h.1,PU b ts h.2]
theorem aeu(b:Bool):∀m:aM,rR m=true->nG b (vw m)=m
 | .mk c vs e=>fun h=>by
   rw[rR,Bool.and_eq_true,Bool.and_eq_true] at h;have he:=KR b e h.2.2;rw[vw,dA,nG,if_neg (by simp),jO];have e1:dB ([bn c]++aP vs++[dZ e]) 0=c:=rfl
   have e2:(([bn c]++aP vs++[dZ e]).drop 1).dropLast=aP vs:=by
    rw[List.append_assoc,List.singleton_append,List.drop_succ_cons,List.drop_zero,List.dropLast_concat]
   rw[e1,e2,u6 (KQ h.2.1)];congr 1;rw[dY,he,List.getLastD_eq_getLast?,List.getLast?_append];simp[dY]
theorem PV(b:Bool):∀ms:List aM,l6 ms=true->kX b (Cr ms)=ms
 |[],_=>rfl
 |t::ts,h=>by
  rw[l6,Bool.and_eq_true] at h;rw[Cr,kX,aeu b t h.1,PV b ts h.2]
end
theorem Ev:jo.sz=0:=by rw[rF];rfl
theorem wY:lF.sz=0:=by rw[sV];simp[lF,ay.bE,ay.fName,ay.fType,ay.fArgs,ay.aK,Ev,qx,xR]
theorem VZ(l:List ah):((fC ((l.drop 1).dropLast)).length+((fC ((l.drop 1).dropLast)).map List.length).sum)<=(l.drop 1).dropLast.length+dG ((l.drop 1).dropLast):=by
 have:=z8 ((l.drop 1).dropLast);omega
theorem aev(x:ah)(m:List ah)(y:ah):dG (x::(m++[y]))=x.sz+(dG m+y.sz):=by rw[dG,kR];simp[dG]
mutual
theorem Fy(b:Bool):∀x:ah,(dN b x).sz<=x.sz
 | .mk a l=>by
   have g:=Mc b l
   have hl:(dY b l).length=l.length:=by rw[wX,List.length_map]
   have hm:(kX b l).length=l.length:=by rw[Aa,List.length_map]
   rw[gY,jC];simp only[ah.aQ,ah.aj];rw[dN];split
   ·have g1:qx ((dY b l).drop 1)+(dB l 0).length<=dG l:=by
     have:=g 0;simp only[Nat.zero_add,(by decide:¬(1<=0)),if_false] at this;omega
    have g2:qx ((dY b l).drop 2)+((dB l 0).length+(dB l 1).length)<=dG l:=by
     have:=g 1;simp only[Nat.reduceAdd,Nat.le_refl,if_true,Nat.sub_self] at this;omega
    have g3:qx ((dY b l).drop 3)+((dB l 1).length+(dB l 2).length)<=dG l:=by
     have:=g 2;simp only[Nat.reduceAdd,(by decide:1<=2),if_true,Nat.reduceSub] at this;omega
    split
    ·rw[wY];omega
    ·repeat' split
     all_goals rw[sV];simp only[ay.bE,ay.fName,ay.fType,ay.fArgs,ay.aK,Ev,qx,xR,List.length_nil,List.length_drop,List.length_take,hl,hm,List.drop_zero] at g1 g2 g3 ⊢
     all_goals try omega
     ·have h1:=KP b (l.getD 1 eH)
      have h2:qx ((dY b l).drop 2)+(l.getD 1 eH).sz<=dG l:=by
       match l with
       |[]=>simp[dY,qx,dG,G9]
       |[x]=>simp[dY,qx,dG,G9]
       |x::y::l=>
        have:=He b l;simp only[dY,List.drop_succ_cons,List.drop_zero,dG];show _+y.sz<=_;omega
      omega
     ·match l with
      |[]=>simp[qx,xR,dY,kX]
      |[x]=>simp[qx,xR,dY,kX]
      |x::y::l=>
       have h1:=Fy b y;have h2:=PW b l;simp only[dY,kX,List.drop_succ_cons,List.drop_zero,List.take_succ_cons,List.take_zero,qx,dG,List.length_cons];omega
   ·split
    ·rw[sV];simp[ay.bE,ay.fName,ay.fType,ay.fArgs,ay.aK,Ev,qx,xR]
    ·repeat' split
     all_goals rw[sV];simp[ay.bE,ay.fName,ay.fType,ay.fArgs,ay.aK,Ev,qx,xR]
theorem He(b:Bool):∀l:List ah,qx (dY b l)<=dG l
 |[]=>by simp[dY,qx]
 |x::xs=>by
  have h1:=Fy b x;have h2:=He b xs;rw[dY,qx,dG];omega
theorem Mc(b:Bool):∀(l:List ah)(i:Nat),qx ((dY b l).drop (i+1))+((if 1<=i then(dB l (i-1)).length else 0)+(dB l i).length)<=dG l
 |[],i=>by simp[dY,qx,Bt]
 |x::xs,0=>by
  have h2:=He b xs;rw[dY,List.drop_succ_cons,List.drop_zero,dG,show dB (x::xs) 0=x.aQ from rfl,gY];simp;omega
 |x::xs,i+1=>by
  have h2:=Mc b xs i;rw[dY,List.drop_succ_cons,dG,show dB (x::xs) (i+1)=dB xs i from rfl]
  cases i with
  |zero=>rw[show dB (x::xs) (0+1-1)=x.aQ from rfl,gY];simp at h2 ⊢;omega
  |succ i=>rw[show dB (x::xs) (i+1+1-1)=dB xs i from rfl];simp at h2 ⊢;omega
theorem aew(b:Bool):∀x:ah,(nG b x).sz<=x.sz
 | .mk a l=>by
   rw[gY,jC];simp only[ah.aQ,ah.aj];rw[nG];split
   ·rw[wU];simp[aM.bS,aM.aX,aM.fBody,wY]
   ·rename_i h;have hn:=VZ l;have hb:=JU b l;rw[wU];simp only[aM.bS,aM.aX,aM.fBody]
    obtain⟨x,m,y,rfl⟩:∃x m y,l=x::(m++[y]):=by
     cases l with
     |nil=>simp at h
     |cons x l=>
      have hl:l≠[]:=fun e=>by rw[e] at h;simp at h
      exact⟨x,l.dropLast,l.getLast hl,by rw[List.dropLast_concat_getLast]⟩
    rw[aev] at *
    rw[show dB (x::(m++[y])) 0=x.aQ from rfl,gY x];simp only[List.drop_succ_cons,List.drop_zero,List.dropLast_concat,List.length_cons,List.length_append,List.length_nil] at hn ⊢
    have hy:((x::(m++[y])).getLastD eH)=y:=by rw[<-List.cons_append,List.getLastD_eq_getLast?,List.getLast?_append];simp
    rw[hy] at hb;omega
theorem PW(b:Bool):∀l:List ah,xR (kX b l)<=dG l
 |[]=>by simp[kX,xR]
 |x::xs=>by
  have h1:=aew b x;have h2:=PW b xs;rw[kX,xR,dG];omega
theorem JU(b:Bool):∀l:List ah,((dY b l).getLastD lF).sz<=(l.getLastD eH).sz
 |[]=>by simp[dY,wY]
 |[x]=>by simpa [dY] using Fy b x
 |x::y::l=>by
  have:=JU b (y::l);simpa [dY] using this
end
def u7(s:List UInt8):Prop:=s.head? =some 45
instance (s:List UInt8):Decidable (u7 s):=inferInstanceAs (Decidable (_=_))
def dU(s:List UInt8):List UInt8:=if u7 s then s.tail else s
theorem wZ:∀(l:List UInt8)(acc v:Nat),Lib.decFrom acc l=some v->∀b∈l,48<=b.toNat/\b.toNat<=57
 |[],_,_,_,b,hb=>by cases hb
 |a::l,acc,v,h,b,hb=>by
  rw[Lib.decFrom] at h
  cases hd:Lib.digitVal a with
  |none=>rw[hd] at h;cases h
  |some d=>
   rw[hd] at h;rcases List.mem_cons.1 hb with rfl|hb
   ·unfold Lib.digitVal at hd;split at hd
    ·assumption
    ·cases hd
   ·exact wZ l _ v h b hb
theorem RD{b:UInt8}(h:48<=b.toNat/\b.toNat<=57):Lib.digitVal b=some (b.toNat-48):=if_pos h
theorem decFrom_take{t:List UInt8}{i acc:Nat}(hi:i<t.length)(h:Lib.decFrom 0 (t.take i)=some acc)(hd:48<=t[i].toNat/\t[i].toNat<=57):Lib.decFrom 0 (t.take (i+1))=some (acc*10+(t[i].toNat-48)):=by
 rw[List.take_succ_eq_append_getElem hi,zw,h,RD hd];rfl
theorem Ew{s:List UInt8}{m:Int}(h:fF s=some m):(u7 s<->m<0)/\dU s=Lib.decDigits m.natAbs/\1<=(dU s).length/\(dU s).length<=12:=by
 obtain⟨hr,he⟩:=JR h;have hl:(Lib.decDigits m.natAbs).length<=12:=Bo 11 _ (by omega);obtain⟨b,r,e,b1,b2⟩:=vT m.natAbs
 have hl1:1<=(Lib.decDigits m.natAbs).length:=by rw[e];simp
 unfold Lib.itoa at he;by_cases hn:m<0
 ·rw[if_pos hn] at he
  have hs:u7 s:=by rw[<-he];rfl
  have hb:dU s=Lib.decDigits m.natAbs:=by unfold dU;rw[if_pos hs,<-he];rfl
  exact⟨⟨fun _=>hn,fun _=>hs⟩,hb,by rw[hb];exact⟨hl1,hl⟩⟩
 ·rw[if_neg hn,show m.toNat=m.natAbs by omega] at he
  have hs:¬u7 s:=fun x=>by
   rw[<-he,e] at x;unfold u7 at x;simp only[List.head?_cons,Option.some.injEq] at x;rw[x] at b1;revert b1;decide
  have hb:dU s=Lib.decDigits m.natAbs:=by unfold dU;rw[if_neg hs,<-he]
  exact⟨⟨fun x=>(hs x).elim,fun x=>(hn x).elim⟩,hb,by rw[hb];exact⟨hl1,hl⟩⟩
theorem sH{s:List UInt8}(h:(dU s).length<1\/12<(dU s).length):fF s=none:=by
 cases hr:fF s with
 |none=>rfl
 |some m=>have:=(Ew hr).2.2;omega
theorem Ac{s:List UInt8}{i:Nat}(hi:i<(dU s).length)(h:¬(48<=(dU s)[i].toNat/\(dU s)[i].toNat<=57)):fF s=none:=by
 cases hr:fF s with
 |none=>rfl
 |some m=>
  have hk:=(Ew hr).2.1;have hd:=vS m.natAbs;rw[<-hk] at hd;exact absurd (wZ _ _ _ hd _ (List.getElem_mem hi)) h
theorem Me{s:List UInt8}{v:Nat}(hv:Lib.decFrom 0 (dU s)=some v)(hb:v<=999999999999):fF s=if Lib.itoa (if u7 s then -(v:Int) else v)=s then some (if u7 s then -(v:Int) else v) else none:=by
 obtain⟨z,hz⟩:∃z,z=(if u7 s then -(v:Int) else v):=⟨_,rfl⟩
 have hzb: -999999999999<=z/\z<=999999999999:=by rw[hz];split<;>omega
 rw[<-hz];by_cases h:Lib.itoa z=s
 ·rw[if_pos h]
  conv=>lhs;rw[<-h]
  exact JQ hzb
 ·rw[if_neg h]
  cases hr:fF s with
  |none=>rfl
  |some m=>
   have hk:=Ew hr;have hd:=vS m.natAbs;rw[<-hk.2.1,hv] at hd
   have hm:v=m.natAbs:=by simpa using hd
   have:z=m:=by
    rw[hz];by_cases hn:u7 s
    ·have:=hk.1.1 hn;rw[if_pos hn];omega
    ·rw[if_neg hn];have:¬m<0:=fun x=>hn (hk.1.2 x);omega
   rw[this] at h;exact absurd (JR hr).2 h
theorem RF(s:List UInt8)(hs:s.length<=1073741824):aG prog 187 [.c (.d (.s s)),.c (.d (.i .i64 12))] (.eG [(false,[.d (.i .i64 ((fF s).getD 0))]),(false,[.d (.b (fF s).isSome)])]):=fun S=>by
 have d0:fF s=none->V.eG [(false,[.d (.i .i64 0)]),(false,[.d (.b false)])]=.eG [(false,[.d (.i .i64 ((fF s).getD 0))]),(false,[.d (.b (fF s).isSome)])]:=fun e=>by rw[e];rfl
 refine zcx [.tmp 4,.tmp 5] func187 ntmps187 ?_;simp -implicitDefEqProofs (disch:=omega) only[go_sem]
 with_reducible refine aA (fun hb=> ?_) (fun hb=> ?_)<;>have h:=hb<;>(try simp only[wf_preprocess] at h)<;>simp -implicitDefEqProofs (disch:=omega) only[go_sem,hb]<;>(repeat(with_reducible refine And.intro ?_ ?_;focus first|omega|rfl|assumption|exact⟨_,rfl,rfl⟩|(simp;omega)|(simp;done)))
 ·have hpos:0<s.length:=by omega
  have h0:(s.getD 0 0).toNat=45<->u7 s:=by
   cases s with
   |nil=>simp at hpos
   |cons b s=>
    unfold u7;simp only[List.getD_cons_zero,List.head?_cons,Option.some.injEq];constructor
    ·intro e;exact UInt8.toNat.inj e
    ·intro e;rw[e];rfl
  (repeat(with_reducible refine And.intro ?_ ?_;focus first|omega|rfl|assumption|exact⟨_,rfl,rfl⟩|(simp;omega)|(simp;done)))
  with_reducible refine aA (fun hb=> ?_) (fun hb=> ?_)<;>have h:=hb<;>(try simp only[wf_preprocess] at h)<;>simp -implicitDefEqProofs (disch:=omega) only[go_sem,hb]<;>(repeat(with_reducible refine And.intro ?_ ?_;focus first|omega|rfl|assumption|exact⟨_,rfl,rfl⟩|(simp;omega)|(simp;done)))
  ·have hn:u7 s:=h0.1 (by omega)
   have hb:dU s=(s.take s.length).drop 1:=by unfold dU;rw[if_pos hn,List.take_length,List.drop_one]
   (repeat(with_reducible refine And.intro ?_ ?_;focus first|omega|rfl|assumption|exact⟨_,rfl,rfl⟩|(simp;omega)|(simp;done)))
   rw[<-hb]
   have hbl:(dU s).length<=s.length:=by rw[hb];simp
   with_reducible refine aA (fun hb=> ?_) (fun hb=> ?_)<;>have h:=hb<;>(try simp only[wf_preprocess] at h)<;>simp -implicitDefEqProofs (disch:=omega) only[go_sem,hb]<;>(repeat(with_reducible refine And.intro ?_ ?_;focus first|omega|rfl|assumption|exact⟨_,rfl,rfl⟩|(simp;omega)|(simp;done)))
   ·exact d0 (sH (by omega))
   with_reducible refine aA (fun hb=> ?_) (fun hb=> ?_)<;>have h:=hb<;>(try simp only[wf_preprocess] at h)<;>simp -implicitDefEqProofs (disch:=omega) only[go_sem,hb]<;>(repeat(with_reducible refine And.intro ?_ ?_;focus first|omega|rfl|assumption|exact⟨_,rfl,rfl⟩|(simp;omega)|(simp;done)))
   ·exact d0 (sH (by omega))
   have hl1:1<=(dU s).length:=by omega
   have hl12:(dU s).length<=12:=by omega
   refine aZ (ι:=Nat×Nat) zmx rfl [0,6,7,8,9] (fun y=>[.c (.d (.s s)),.c (.d (.b true)),.c (.d (.s (dU s))),.c (.d (.i .i64 y.2)),.c (.d (.i .i64 y.1))]) (fun _=>[]::S)
    (fun y=>y.1<=(dU s).length/\Lib.decFrom 0 ((dU s).take y.1)=some y.2/\y.2<10^y.1) (fun y=>(dU s).length-y.1) (0,0) rfl rfl ⟨Nat.zero_le _,rfl,by decide⟩ ?_
   rintro⟨i,acc⟩ ⟨p1,p2,p3⟩;simp only at p1 p2 p3;have p4:10^i<=10^12:=Nat.pow_le_pow_right (by decide) (by omega);simp -implicitDefEqProofs (disch:=omega) only[go_sem]
   with_reducible refine aA (fun hb=> ?_) (fun hb=> ?_)<;>have h:=hb<;>(try simp only[wf_preprocess] at h)<;>simp -implicitDefEqProofs (disch:=omega) only[go_sem,hb]<;>(repeat(with_reducible refine And.intro ?_ ?_;focus first|omega|rfl|assumption|exact⟨_,rfl,rfl⟩|(simp;omega)|(simp;done)))
   ·have hi:i<(dU s).length:=by omega
    have e:(dU s).getD i 0=(dU s)[i]:=by simp[List.getD,hi]
    have hbb:=(dU s)[i].toNat_lt
    (repeat(with_reducible refine And.intro ?_ ?_;focus first|omega|rfl|assumption|exact⟨_,rfl,rfl⟩|(simp;omega)|(simp;done)))
    simp only[e]
    with_reducible refine aA (fun hb=> ?_) (fun hb=> ?_)<;>have h:=hb<;>(try simp only[wf_preprocess] at h)<;>simp -implicitDefEqProofs (disch:=omega) only[go_sem,hb]<;>(repeat(with_reducible refine And.intro ?_ ?_;focus first|omega|rfl|assumption|exact⟨_,rfl,rfl⟩|(simp;omega)|(simp;done)))
    ·exact d0 (Ac hi (by omega))
    (repeat(with_reducible refine And.intro ?_ ?_;focus first|omega|rfl|assumption|exact⟨_,rfl,rfl⟩|(simp;omega)|(simp;done)))
    simp only[e]
    with_reducible refine aA (fun hb=> ?_) (fun hb=> ?_)<;>have h:=hb<;>(try simp only[wf_preprocess] at h)<;>simp -implicitDefEqProofs (disch:=omega) only[go_sem,hb]<;>(repeat(with_reducible refine And.intro ?_ ?_;focus first|omega|rfl|assumption|exact⟨_,rfl,rfl⟩|(simp;omega)|(simp;done)))
    ·exact d0 (Ac hi (by omega))
    have hdg:48<=(dU s)[i].toNat/\(dU s)[i].toNat<=57:=by omega
    have ht:=decFrom_take hi p2 hdg
    have e2:(10:Int)*acc+(((dU s)[i].toNat:Int)-48)=((acc*10+((dU s)[i].toNat-48):Nat):Int):=by omega
    (repeat(with_reducible refine And.intro ?_ ?_;focus first|omega|rfl|assumption|exact⟨_,rfl,rfl⟩|(simp;omega)|(simp;done)))
    simp -implicitDefEqProofs (disch:=omega) only[go_sem,wrap_u8,e];rw[e2];exact cK (i+1,acc*10+((dU s)[i].toNat-48)) (by simp only;omega) rfl rfl ⟨by simp only;omega,ht,by simp only[Nat.pow_succ];omega⟩
   ·have hi:i=(dU s).length:=by omega
    have hv:Lib.decFrom 0 (dU s)=some acc:=by rw[hi,List.take_length] at p2;exact p2
    have CP:=Me hv (by omega);rw[if_pos hn] at CP;rw[show(0:Int)-acc= -(acc:Int) by omega];refine au (sW (-(acc:Int)) (by omega) (by omega)) ?_;simp -implicitDefEqProofs (disch:=omega) only[go_sem]
    with_reducible refine aA (fun hb=> ?_) (fun hb=> ?_)<;>have h:=hb<;>(try simp only[wf_preprocess] at h)<;>simp -implicitDefEqProofs (disch:=omega) only[go_sem,hb]<;>(repeat(with_reducible refine And.intro ?_ ?_;focus first|omega|rfl|assumption|exact⟨_,rfl,rfl⟩|(simp;omega)|(simp;done)))
    ·exact d0 (CP.trans (if_neg h))
    ·rw[CP.trans (if_pos h)];rfl
  ·have hn:¬u7 s:=fun x=>h (by rw[h0.2 x];rfl)
   have hbs:dU s=s:=by unfold dU;rw[if_neg hn]
   have hbl:(dU s).length=s.length:=by rw[hbs]
   with_reducible refine aA (fun hb=> ?_) (fun hb=> ?_)<;>have h:=hb<;>(try simp only[wf_preprocess] at h)<;>simp -implicitDefEqProofs (disch:=omega) only[go_sem,hb]<;>(repeat(with_reducible refine And.intro ?_ ?_;focus first|omega|rfl|assumption|exact⟨_,rfl,rfl⟩|(simp;omega)|(simp;done)))
   ·exact d0 (sH (by omega))
   with_reducible refine aA (fun hb=> ?_) (fun hb=> ?_)<;>have h:=hb<;>(try simp only[wf_preprocess] at h)<;>simp -implicitDefEqProofs (disch:=omega) only[go_sem,hb]<;>(repeat(with_reducible refine And.intro ?_ ?_;focus first|omega|rfl|assumption|exact⟨_,rfl,rfl⟩|(simp;omega)|(simp;done)))
   ·exact d0 (sH (by omega))
   have hl1:1<=(dU s).length:=by omega
   have hl12:(dU s).length<=12:=by omega
   refine aZ (ι:=Nat×Nat) zmx rfl [0,6,7,8,9] (fun y=>[.c (.d (.s s)),.c (.d (.b false)),.c (.d (.s (dU s))),.c (.d (.i .i64 y.2)),.c (.d (.i .i64 y.1))]) (fun _=>[]::S)
    (fun y=>y.1<=(dU s).length/\Lib.decFrom 0 ((dU s).take y.1)=some y.2/\y.2<10^y.1) (fun y=>(dU s).length-y.1) (0,0) (by rw[hbs];rfl) rfl ⟨Nat.zero_le _,rfl,by decide⟩ ?_
   rintro⟨i,acc⟩ ⟨p1,p2,p3⟩;simp only at p1 p2 p3;have p4:10^i<=10^12:=Nat.pow_le_pow_right (by decide) (by omega);simp -implicitDefEqProofs (disch:=omega) only[go_sem]
   with_reducible refine aA (fun hb=> ?_) (fun hb=> ?_)<;>have h:=hb<;>(try simp only[wf_preprocess] at h)<;>simp -implicitDefEqProofs (disch:=omega) only[go_sem,hb]<;>(repeat(with_reducible refine And.intro ?_ ?_;focus first|omega|rfl|assumption|exact⟨_,rfl,rfl⟩|(simp;omega)|(simp;done)))
   ·have hi:i<(dU s).length:=by omega
    have e:(dU s).getD i 0=(dU s)[i]:=by simp[List.getD,hi]
    have hbb:=(dU s)[i].toNat_lt
    (repeat(with_reducible refine And.intro ?_ ?_;focus first|omega|rfl|assumption|exact⟨_,rfl,rfl⟩|(simp;omega)|(simp;done)))
    simp only[e]
    with_reducible refine aA (fun hb=> ?_) (fun hb=> ?_)<;>have h:=hb<;>(try simp only[wf_preprocess] at h)<;>simp -implicitDefEqProofs (disch:=omega) only[go_sem,hb]<;>(repeat(with_reducible refine And.intro ?_ ?_;focus first|omega|rfl|assumption|exact⟨_,rfl,rfl⟩|(simp;omega)|(simp;done)))
    ·exact d0 (Ac hi (by omega))
    (repeat(with_reducible refine And.intro ?_ ?_;focus first|omega|rfl|assumption|exact⟨_,rfl,rfl⟩|(simp;omega)|(simp;done)))
    simp only[e]
    with_reducible refine aA (fun hb=> ?_) (fun hb=> ?_)<;>have h:=hb<;>(try simp only[wf_preprocess] at h)<;>simp -implicitDefEqProofs (disch:=omega) only[go_sem,hb]<;>(repeat(with_reducible refine And.intro ?_ ?_;focus first|omega|rfl|assumption|exact⟨_,rfl,rfl⟩|(simp;omega)|(simp;done)))
    ·exact d0 (Ac hi (by omega))
    have hdg:48<=(dU s)[i].toNat/\(dU s)[i].toNat<=57:=by omega
    have ht:=decFrom_take hi p2 hdg
    have e2:(10:Int)*acc+(((dU s)[i].toNat:Int)-48)=((acc*10+((dU s)[i].toNat-48):Nat):Int):=by omega
    (repeat(with_reducible refine And.intro ?_ ?_;focus first|omega|rfl|assumption|exact⟨_,rfl,rfl⟩|(simp;omega)|(simp;done)))
    simp -implicitDefEqProofs (disch:=omega) only[go_sem,wrap_u8,e];rw[e2];exact cK (i+1,acc*10+((dU s)[i].toNat-48)) (by simp only;omega) rfl rfl ⟨by simp only;omega,ht,by simp only[Nat.pow_succ];omega⟩
   ·have hi:i=(dU s).length:=by omega
    have hv:Lib.decFrom 0 (dU s)=some acc:=by rw[hi,List.take_length] at p2;exact p2
    have CP:=Me hv (by omega);rw[if_neg hn] at CP;refine au (sW ((acc:Int)) (by omega) (by omega)) ?_;simp -implicitDefEqProofs (disch:=omega) only[go_sem]
    with_reducible refine aA (fun hb=> ?_) (fun hb=> ?_)<;>have h:=hb<;>(try simp only[wf_preprocess] at h)<;>simp -implicitDefEqProofs (disch:=omega) only[go_sem,hb]<;>(repeat(with_reducible refine And.intro ?_ ?_;focus first|omega|rfl|assumption|exact⟨_,rfl,rfl⟩|(simp;omega)|(simp;done)))
    ·exact d0 (CP.trans (if_neg h))
    ·rw[CP.trans (if_pos h)];rfl
 ·have hs0:s=[]:=List.eq_nil_of_length_eq_zero (by omega)
  have hb0:(dU s).length=0:=by rw[hs0];rfl
  with_reducible refine aA (fun hb=> ?_) (fun hb=> ?_)<;>have h:=hb<;>(try simp only[wf_preprocess] at h)<;>simp -implicitDefEqProofs (disch:=omega) only[go_sem,hb]<;>(repeat(with_reducible refine And.intro ?_ ?_;focus first|omega|rfl|assumption|exact⟨_,rfl,rfl⟩|(simp;omega)|(simp;done)))
  ·exact d0 (sH (by omega))
  ·omega
theorem JV(s:List UInt8)(hs:s.length<=1073741824):aG prog 141 [.c (.d (.s s))] (.eG [(false,[.d (.i .i64 ((fF s).getD 0))]),(false,[.d (.b (fF s).isSome)])]):=fun S=>by
 refine zcx [.tmp 2,.tmp 3] func141 ntmps141 ?_;simp -implicitDefEqProofs (disch:=omega) only[go_sem];refine au (RF s hs) ?_;simp -implicitDefEqProofs (disch:=omega) only[go_sem]<;>(repeat(with_reducible refine And.intro ?_ ?_;focus first|omega|rfl|assumption|exact⟨_,rfl,rfl⟩|(simp;omega)|(simp;done)))
theorem Y2{x:ah}{i:Nat}(hi:i<x.aj.length)(h:x.sz<=4194304):x.aj[i].sz<=4194304:=by
 have:=jL (List.getElem_mem hi);rw[gY,jC] at h;omega
theorem Y3{x:ah}(h:x.sz<=4194304):x.aQ.length<=4194304/\x.aj.length<=4194304:=by
 rw[gY] at h;omega
theorem w9:∀n:Nat,∀x:ah,SizeOf.sizeOf x<n->∀y:ah,x.sz<=4194304->aG prog 9 [x.v,y.v] (.c (.d (.b (dec (x=y)))))
 |0=>fun x h=>by omega
 |n+1=>by
  have ih:=w9 n;intro x hn y hsz S;have ahv:=ah.oP x;have hb:=Y3 hsz;refine zcx [.tmp 4] func9 ntmps9 ?_;simp -implicitDefEqProofs (disch:=omega) only[go_sem]
  with_reducible refine aA (fun hb=> ?_) (fun hb=> ?_)<;>have h:=hb<;>(try simp only[wf_preprocess] at h)<;>simp -implicitDefEqProofs (disch:=omega) only[go_sem,hb]<;>(repeat(with_reducible refine And.intro ?_ ?_;focus first|omega|rfl|assumption|exact⟨_,rfl,rfl⟩|(simp;omega)|(simp;done)))
  ·exact aI (aO (fun e=>h (by rw[e]))).symm
  have h1:=h
  with_reducible refine aA (fun hb=> ?_) (fun hb=> ?_)<;>have h:=hb<;>(try simp only[wf_preprocess] at h)<;>simp -implicitDefEqProofs (disch:=omega) only[go_sem,hb]<;>(repeat(with_reducible refine And.intro ?_ ?_;focus first|omega|rfl|assumption|exact⟨_,rfl,rfl⟩|(simp;omega)|(simp;done)))
  ·exact aI (aO (fun e=>h (by rw[e]))).symm
  have hl:x.aj.length=y.aj.length:=by omega
  refine aZ (ι:=Nat) zmx rfl [2,3,5] (fun i=>[.c (.ptr (0,0) 0),.c (.ptr (0,1) 0),.c (.d (.i .i64 i))]) (fun i=>[.box [.d (.s x.aQ),.d (.sl (x.aj.map ah.enc))],.box [.d (.s y.aQ),.d (.sl (y.aj.map ah.enc))]]::S)
   (fun i=>i<=x.aj.length/\∀j,j<i->x.aj[j]? =y.aj[j]?) (fun i=>x.aj.length-i) 0 rfl rfl ⟨Nat.zero_le _,fun j h=>by omega⟩ ?_
  rintro i ⟨p1,p2⟩;simp -implicitDefEqProofs (disch:=omega) only[go_sem,ah.aB]
  with_reducible refine aA (fun hb=> ?_) (fun hb=> ?_)<;>have h:=hb<;>(try simp only[wf_preprocess] at h)<;>simp -implicitDefEqProofs (disch:=omega) only[go_sem,hb]<;>(repeat(with_reducible refine And.intro ?_ ?_;focus first|omega|rfl|assumption|exact⟨_,rfl,rfl⟩|(simp;omega)|(simp;done)))
  ·have hi:i<x.aj.length:=by omega
   have hi':i<y.aj.length:=by omega
   (repeat(with_reducible refine And.intro ?_ ?_;focus first|omega|rfl|assumption|exact⟨_,rfl,rfl⟩|(simp;omega)|(simp;done)))
   refine au (ih x.aj[i] (by have:=List.sizeOf_lt_of_mem (List.getElem_mem hi);omega) y.aj[i] (Y2 hi hsz)) ?_;simp -implicitDefEqProofs (disch:=omega) only[go_sem]
   with_reducible refine aA (fun hb=> ?_) (fun hb=> ?_)<;>have h:=hb<;>(try simp only[wf_preprocess] at h)<;>simp -implicitDefEqProofs (disch:=omega) only[go_sem,hb]<;>(repeat(with_reducible refine And.intro ?_ ?_;focus first|omega|rfl|assumption|exact⟨_,rfl,rfl⟩|(simp;omega)|(simp;done)))
   ·exact aI (aO (fun e=>h (by simp only[e]))).symm
   refine cK (i+1) (by omega) rfl rfl ⟨by omega,fun j hj=> ?_⟩;by_cases e:j=i
   ·subst e;rw[List.getElem?_eq_getElem hi,List.getElem?_eq_getElem hi',h]
   ·exact p2 j (by omega)
  ·have hi:i=x.aj.length:=by omega
   refine aI (bJ ?_).symm;refine ah.ext (by first|exact h1|(simp at h1;exact h1)) (List.ext_getElem? fun j=> ?_);by_cases hj:j<i
   ·exact p2 j hj
   ·rw[List.getElem?_eq_none (by omega),List.getElem?_eq_none (by omega)]
theorem mM(x y:ah)(h:x.sz<=4194304):aG prog 9 [x.v,y.v] (.c (.d (.b (dec (x=y))))):=w9 _ x (Nat.lt_succ_self _) y h
theorem xg:∀n:Nat,(∀x:ah,SizeOf.sizeOf x<n->∀y:ah,x.sz<=4194304->aG prog 61 [x.v,y.v] (.c (.d (.b (dec (x=y))))))/\
 (∀xs:List ah,SizeOf.sizeOf xs<n->∀ys:List ah,xs.length<=4194304->(∀t∈xs,t.sz<=4194304)->aG prog 135 [.c (.d (.sl (xs.map ah.enc))),.c (.d (.sl (ys.map ah.enc))),.c (.fn 61 [])] (.c (.d (.b (dec (xs=ys))))))
 |0=>⟨fun x h=>by omega,fun x h=>by omega⟩
 |n+1=>by
  obtain⟨ih,mo⟩:=xg n;refine⟨fun x hn y hsz S=> ?_,fun xs hn ys hlen hsz S=> ?_⟩
  ·have ahv:=ah.oP x;have hb:=Y3 hsz;refine zcx [.tmp 4] func61 ntmps61 ?_;simp -implicitDefEqProofs (disch:=omega) only[go_sem]
   with_reducible refine aA (fun hb=> ?_) (fun hb=> ?_)<;>have h:=hb<;>(try simp only[wf_preprocess] at h)<;>simp -implicitDefEqProofs (disch:=omega) only[go_sem,hb]<;>(repeat(with_reducible refine And.intro ?_ ?_;focus first|omega|rfl|assumption|exact⟨_,rfl,rfl⟩|(simp;omega)|(simp;done)))
   ·have h1:=h
    (repeat(with_reducible refine And.intro ?_ ?_;focus first|omega|rfl|assumption|exact⟨_,rfl,rfl⟩|(simp;omega)|(simp;done)))
    refine au (mo x.aj (by omega) y.aj (by omega) (fun t ht=>by
     obtain⟨i,hi,e⟩:=List.getElem_of_mem ht
     rw[<-e];exact Y2 hi hsz)) ?_
    simp -implicitDefEqProofs (disch:=omega) only[go_sem];refine aI (iT ⟨fun e=>ah.ext h1 e,fun e=>by rw[e]⟩)
   ·exact aI (aO (fun e=>h (by rw[e]))).symm
  ·refine zcx [.tmp 6] func135 ntmps135 ?_;simp -implicitDefEqProofs (disch:=omega) only[go_sem]
   with_reducible refine aA (fun hb=> ?_) (fun hb=> ?_)<;>have h:=hb<;>(try simp only[wf_preprocess] at h)<;>simp -implicitDefEqProofs (disch:=omega) only[go_sem,hb]<;>(repeat(with_reducible refine And.intro ?_ ?_;focus first|omega|rfl|assumption|exact⟨_,rfl,rfl⟩|(simp;omega)|(simp;done)))
   ·exact aI (aO (fun e=>h (by rw[e]))).symm
   have hl:xs.length=ys.length:=by omega
   refine aZ (ι:=Nat) zmx rfl [1,2,15,16,17] (fun y=>[.c (.d (.sl (ys.map ah.enc))),.c (.fn 61 []),.c (.d (.sl (xs.map ah.enc))),.c (.d (.i .i64 xs.length)),.c (.d (.i .i64 y))]) (fun y=>[]::S)
    (fun i=>i<=xs.length/\∀j,j<i->xs[j]? =ys[j]?) (fun y=>xs.length-y) 0 rfl rfl ⟨Nat.zero_le _,fun j h=>by omega⟩ ?_
   rintro i ⟨p1,p2⟩;simp -implicitDefEqProofs (disch:=omega) only[go_sem]
   with_reducible refine aA (fun hb=> ?_) (fun hb=> ?_)<;>have h:=hb<;>(try simp only[wf_preprocess] at h)<;>simp -implicitDefEqProofs (disch:=omega) only[go_sem,hb]<;>(repeat(with_reducible refine And.intro ?_ ?_;focus first|omega|rfl|assumption|exact⟨_,rfl,rfl⟩|(simp;omega)|(simp;done)))
   ·have hi:i<xs.length:=by omega
    have hi':i<ys.length:=by omega
    (repeat(with_reducible refine And.intro ?_ ?_;focus first|omega|rfl|assumption|exact⟨_,rfl,rfl⟩|(simp;omega)|(simp;done)))
    refine au (ih xs[i] (by have:=List.sizeOf_lt_of_mem (List.getElem_mem hi);omega) ys[i] (hsz _ (List.getElem_mem hi))) ?_;simp -implicitDefEqProofs (disch:=omega) only[go_sem]
    with_reducible refine aA (fun hb=> ?_) (fun hb=> ?_)<;>have h:=hb<;>(try simp only[wf_preprocess] at h)<;>simp -implicitDefEqProofs (disch:=omega) only[go_sem,hb]<;>(repeat(with_reducible refine And.intro ?_ ?_;focus first|omega|rfl|assumption|exact⟨_,rfl,rfl⟩|(simp;omega)|(simp;done)))
    ·exact aI (aO (fun e=>h (by simp only[e]))).symm
    refine dD 0 (by decide) (i+1) (by omega) rfl rfl rfl rfl ⟨by omega,fun j hj=> ?_⟩;by_cases e:j=i
    ·subst e;rw[List.getElem?_eq_getElem hi,List.getElem?_eq_getElem hi',h]
    ·exact p2 j (by omega)
   ·have hi:i=xs.length:=by omega
    refine aI (bJ (List.ext_getElem? fun j=> ?_)).symm;by_cases hj:j<i
    ·exact p2 j hj
    ·rw[List.getElem?_eq_none (by omega),List.getElem?_eq_none (by omega)]
theorem FD(x y:ah)(h:x.sz<=4194304):aG prog 61 [x.v,y.v] (.c (.d (.b (dec (x=y))))):=(xg _).1 x (Nat.lt_succ_self _) y h
theorem wB{α:Type}[SizeOf α]:∀(i:Nat)(l:List α),SizeOf.sizeOf (l.drop i)<=SizeOf.sizeOf l
 |0,l=>by simp
 |i+1,[]=>by simp
 |i+1,x::l=>by
  have:=wB i l;rw[List.drop_succ_cons];simp only[List.cons.sizeOf_spec];omega
theorem rO(l:List ah)(n i:Nat)(h:l.length<=n):((l.map ah.enc).take n).drop i=(l.drop i).map ah.enc:=by
 rw[List.take_of_length_le (by rw[List.length_map];exact h),List.map_drop]
theorem ab9(l:List ah)(i:Nat):(l.getD i eH).sz<=dG l:=by
 rw[List.getD_eq_getElem?_getD];by_cases h:i<l.length
 ·rw[List.getElem?_eq_getElem h];exact jL (List.getElem_mem h)
 ·rw[List.getElem?_eq_none (by omega)];rw[Option.getD_none,gY];simp[eH,ah.aQ,ah.aj,bC]
theorem iy(x:ah):x.aj.length+dG x.aj<=x.sz:=by rw[gY,jC];omega
theorem CG(x:ah):x.aQ.length<=x.sz:=by rw[gY];omega
def uq(x:ah):List D:=[.s x.aQ]
def allA(l:List ah):Bool:=l.all fun x=>decide (x.aQ≠[])
theorem SN{l:List ah}{i:Nat}(hi:i<l.length)(h:l[i].aQ=[]):allA l=false/\fC l=[]:=by
 have:allA l=false:=by
  unfold allA;rw[List.all_eq_false];exact⟨_,List.getElem_mem hi,by simp[h]⟩
 refine⟨this,?_⟩;unfold fC;unfold allA at this;rw[this];rfl
theorem PX{l:List ah}(h:∀j (hj:j<l.length),l[j].aQ≠[]):allA l=true/\(fC l).map encS=l.map uq:=by
 have:allA l=true:=by
  unfold allA;rw[List.all_eq_true];intro x hx;obtain⟨j,hj,rfl⟩:=List.getElem_of_mem hx;exact decide_eq_true (h j hj)
 refine⟨this,?_⟩;unfold fC;unfold allA at this;rw[this,if_pos rfl,List.map_map];rfl
theorem Ey{l:List ah}{i:Nat}(hi:i<l.length):(l.take i).map uq++[[.s l[i].aQ]]=(l.take (i+1)).map uq:=by
 rw[List.take_succ_eq_append_getElem hi,List.map_append];rfl
theorem Gd{l:List ah}{i:Nat}:((l.take i).map uq).length<=i:=by rw[List.length_map];exact List.length_take_le _ _
def lt(l:List ak)(n:Nat):List (List D):=eP (l.map ak.enc) n
def gG(l:List ak):Nat:=nZ (l.map ak.enc)
theorem aex(x:ak)(n:Nat):dS x.enc n=[.i .i64 x.aL,.s x.fName,.ol n (lt x.fArgs (n+1))]:=by
 rw[ak.aB];simp only[dS,lJ,oV,Nat.add_zero,lt]
theorem Y4(l:List ak)(n:Nat):(lt l n).length=l.length:=by unfold lt;rw[kT,List.length_map]
theorem aey{l:List ak}{i:Nat}(hi:i<l.length)(n:Nat):lt (l.take i) n++[[.i .i64 l[i].aL,.s l[i].fName,.ol (n+gG (l.take i)) (lt l[i].fArgs (n+gG (l.take i)+1))]]=lt (l.take (i+1)) n:=by
 rw[List.take_succ_eq_append_getElem hi];unfold lt gG;rw[List.map_append,oW];simp only[List.map_cons,List.map_nil,eP,aex,lt]
theorem Mf{l:List ak}{i:Nat}(hi:i<l.length):(l.take i).map ak.enc++[[.i .i64 l[i].aL,.s l[i].fName,.sl (l[i].fArgs.map ak.enc)]]=(l.take (i+1)).map ak.enc:=by
 rw[List.take_succ_eq_append_getElem hi,List.map_append];simp only[List.map_cons,List.map_nil,ak.aB]
theorem KT(k:Int)(s:List UInt8)(n:Nat):Less (.agg [.d (.i .i64 k),.d (.s s),.bA []]) (.agg [.d (.i .i64 k),.d (.s s),.d (.ol n [])]):=(eB.cons (.refl _) (.cons (.refl _) (.cons (gP n) .nil))).less
theorem SQ(k:Int)(s:List UInt8)(es:List (List D)):Less (.agg [.d (.i .i64 k),.d (.s s),.bA es]) (.agg [.d (.i .i64 k),.d (.s s),.d (.sl es)]):=(eB.cons (.refl _) (.cons (.refl _) (.cons (jG es) .nil))).less
theorem afX{s:List UInt8}(h:s≠[]):((s.getD 0 0).toNat:Int)=39<->s.head? =some 39:=by
 cases s with
 |nil=>exact(h rfl).elim
 |cons b s=>
  simp only[List.getD_cons_zero,List.head?_cons,Option.some.injEq];constructor
  ·intro e
   have:b.toNat=39:=by omega
   exact UInt8.toNat.inj this
  ·intro e;rw[e];rfl
theorem JW(s:List UInt8)(n:Nat)(h:s.length<=n):(s.take n).drop 1=s.tail:=by rw[List.take_of_length_le h,List.drop_one]
abbrev ak.vl(t:ak)(n:Nat):V:=.agg [.d (.i .i64 t.aL),.d (.s t.fName),.d (.ol n (lt t.fArgs (n+1)))]
theorem Hf(l:List (List UInt8)):nZ (l.map encS)=0:=by
 induction l with
 |nil=>rfl
 |cons s l ih=>rw[List.map_cons,nZ,ih];rfl
theorem afY{b:Bool}{x:ah}{r:V}{k:Int}{s:List UInt8}{l:List ak}(h:dI b x=.mk k s l)(hl:Less r (.agg [.d (.i .i64 k),.d (.s s),.d (.sl (l.map ak.enc))])):Less r (dI b x).v:=by rw[h];exact hl
theorem acW{b:Bool}{x:ah}{k:Int}{s:List UInt8}(h:dI b x=.mk k s []):Less (.agg [.d (.i .i64 k),.d (.s s),.bA []]) (dI b x).v:=by rw[h];exact SQ k s []
theorem acX{b:Bool}{x:ah}{k:Int}{s:List UInt8}(h:dI b x=.mk k s []):Less (.agg [.d (.i .i64 k),.d (.s s),.d (.sl [])]) (dI b x).v:=by rw[h];exact iD _
theorem acY{b:Bool}{x:ah}{r:V}{n:Nat}{k:Int}{s:List UInt8}{l:List ak}(h:dI b x=.mk k s l)(hl:Less r (.agg [.d (.i .i64 k),.d (.s s),.d (.ol n (lt l (n+1)))])):Less r ((dI b x).vl n):=by rw[h];exact hl
theorem Y5{b:Bool}{x:ah}{n:Nat}{k:Int}{s:List UInt8}(h:dI b x=.mk k s []):Less (.agg [.d (.i .i64 k),.d (.s s),.bA []]) ((dI b x).vl n):=by rw[h];exact KT k s n
theorem Y6{b:Bool}{x:ah}{n:Nat}{k:Int}{s:List UInt8}(h:dI b x=.mk k s []):Less (.agg [.d (.i .i64 k),.d (.s s),.d (.ol n [])]) ((dI b x).vl n):=by rw[h];exact iD _
theorem RG{s:List UInt8}(h:1<=s.length):(s.take 1).drop 0=[39]<->s.head? =some 39:=by
 cases s with
 |nil=>simp at h
 |cons b s=>simp
theorem Ez(xs:List ah)(hx:xs.length<=1073741824):aG prog 139 [.c (.d (.sl (xs.map ah.enc)))] (.eG [(false,[.d (.sl ((fC xs).map encS))]),(false,[.d (.b (allA xs))])]):=aG.of_le fun S=>by
 refine zcx [.tmp 2,.tmp 3] func139 ntmps139 ?_;simp -implicitDefEqProofs (disch:=omega) only[go_sem]
 (repeat(with_reducible refine And.intro ?_ ?_;focus first|omega|rfl|assumption|exact⟨_,rfl,rfl⟩|(simp;omega)|(simp;done)))
 refine wM 4 1 [] rfl (by simp) ?_
 refine aZ (ι:=Nat) zmx rfl [0,4,5] (fun i=>[.c (.d (.sl (xs.map ah.enc))),.c (.bG (0,0) ((xs.take i).map uq)),.c (.d (.i .i64 i))]) (fun i=>[.tok 1 ((xs.take i).map uq)]::S)
  (fun i=>i<=xs.length/\∀j,∀hj:j<xs.length,j<i->xs[j].aQ≠[]) (fun i=>xs.length-i) 0 rfl rfl ⟨Nat.zero_le _,fun j _ h=>by omega⟩ ?_
 rintro i ⟨p1,p2⟩;have hl:=Gd (l:=xs) (i:=i);simp -implicitDefEqProofs (disch:=omega) only[go_sem,ah.aB]
 with_reducible refine aA (fun hb=> ?_) (fun hb=> ?_)<;>have h:=hb<;>(try simp only[wf_preprocess] at h)<;>simp -implicitDefEqProofs (disch:=omega) only[go_sem,hb]<;>(repeat(with_reducible refine And.intro ?_ ?_;focus first|omega|rfl|assumption|exact⟨_,rfl,rfl⟩|(simp;omega)|(simp;done)))
 ·have hi':i<xs.length:=by omega
  have hs:=Ey hi'
  (repeat(with_reducible refine And.intro ?_ ?_;focus first|omega|rfl|assumption|exact⟨_,rfl,rfl⟩|(simp;omega)|(simp;done)))
  with_reducible refine aA (fun hb=> ?_) (fun hb=> ?_)<;>have h:=hb<;>(try simp only[wf_preprocess] at h)<;>simp -implicitDefEqProofs (disch:=omega) only[go_sem,hb]<;>(repeat(with_reducible refine And.intro ?_ ?_;focus first|omega|rfl|assumption|exact⟨_,rfl,rfl⟩|(simp;omega)|(simp;done)))
  ·obtain⟨e1,e2⟩:=SN hi' h;rw[e1,e2];exact(kZ.cons (.cons (jG _) .nil) (.refl _)).less
  ·(repeat(with_reducible refine And.intro ?_ ?_;focus first|omega|rfl|assumption|exact⟨_,rfl,rfl⟩|(simp;omega)|(simp;done)))
   rw[hs];refine cK (i+1) (by omega) rfl rfl ⟨by omega,fun j hj hji=> ?_⟩;by_cases e':j=i
   ·subst e';exact h
   ·exact p2 j hj (by omega)
 ·have hi':i=xs.length:=by omega
  subst hi';obtain⟨e1,e2⟩:=PX fun j hj=>p2 j hj hj;rw[e1,e2,List.take_length];exact iD _
theorem zy(x:ah)(hx:x.sz<=4194304):aG prog 64 [x.v] (.c (.d (.sl ((fC x.aj).map encS)))):=fun S=>by
 have:=iy x;refine zcx [.tmp 2] func64 ntmps64 ?_;simp -implicitDefEqProofs (disch:=omega) only[go_sem];refine au (Ez x.aj (by omega)) ?_;simp -implicitDefEqProofs (disch:=omega) only[go_sem]
theorem pQ(x:ah)(i:Nat)(hx:x.sz<=4194304)(hi:i<=100):aG prog 63 [x.v,.c (.d (.i .i64 i))] (x.aj.getD i eH).v:=aG.of_le fun S=>by
 have:=iy x;refine zcx [.cell 4 39] func63 ntmps63 ?_;simp -implicitDefEqProofs (disch:=omega) only[go_sem]
 with_reducible refine aA (fun hb=> ?_) (fun hb=> ?_)<;>have h:=hb<;>(try simp only[wf_preprocess] at h)<;>simp -implicitDefEqProofs (disch:=omega) only[go_sem,hb]<;>(repeat(with_reducible refine And.intro ?_ ?_;focus first|omega|rfl|assumption|exact⟨_,rfl,rfl⟩|(simp;omega)|(simp;done)))
 ·rw[List.getD_eq_getElem?_getD,List.getElem?_eq_none (by omega)];exact(eB.cons (.refl _) (.cons (jG _) .nil)).less
 ·have hi:i<x.aj.length:=by omega
  rw[List.getD_eq_getElem?_getD,List.getElem?_eq_getElem hi];exact iD _
theorem qd(a b:Int):aG prog 144 [.c (.d (.i .i64 a)),.c (.d (.i .i64 b))] (.c (.d (.i .i64 (min a b)))):=fun S=>by
 refine zcx [.tmp 4] func144 ntmps144 ?_;simp -implicitDefEqProofs (disch:=omega) only[go_sem]
 with_reducible refine aA (fun hb=> ?_) (fun hb=> ?_)<;>have h:=hb<;>(try simp only[wf_preprocess] at h)<;>simp -implicitDefEqProofs (disch:=omega) only[go_sem,hb]<;>(repeat(with_reducible refine And.intro ?_ ?_;focus first|omega|rfl|assumption|exact⟨_,rfl,rfl⟩|(simp;omega)|(simp;done)))
 ·exact int_eq (by omega)
 ·exact int_eq (by omega)
theorem RH(x:ah)(i:Nat)(hx:x.sz<=4194304):aG prog 77 [x.v,.c (.d (.i .i64 i))] (.c (.d (.sl ((x.aj.drop i).map ah.enc)))):=fun S=>by
 have:=iy x;refine zcx [.tmp 4] func77 ntmps77 ?_;simp -implicitDefEqProofs (disch:=omega) only[go_sem];refine au (qd _ _) ?_
 have e:min (i:Int) (x.aj.length:Int)=((min i x.aj.length:Nat):Int):=by omega
 rw[e];have hr:=iq (l:=x.aj);simp -implicitDefEqProofs (disch:=omega) only[go_sem]
 (repeat(with_reducible refine And.intro ?_ ?_;focus first|omega|rfl|assumption|exact⟨_,rfl,rfl⟩|(simp;omega)|(simp;done)))
 refine⟨⟨by omega,by omega,by omega,hr⟩,?_⟩;rw[rO _ _ _ (Nat.le_refl _)];by_cases h:i<=x.aj.length
 ·rw[Nat.min_eq_left h]
 ·rw[Nat.min_eq_right (by omega),List.drop_length,List.drop_of_length_le (by omega)]
theorem V3(s:List UInt8):aG prog 140 [.c (.d (.s s)),.c (.d (.sl []))] (.agg [.d (.i .i64 2),.d (.s s),.d (.sl [])]):=aG.of_le fun S=>by
 refine zcx [.cell 4 29] func140 ntmps140 ?_;simp -implicitDefEqProofs (disch:=omega) only[go_sem]
 (repeat(with_reducible refine And.intro ?_ ?_;focus first|omega|rfl|assumption|exact⟨_,rfl,rfl⟩|(simp;omega)|(simp;done)))
 exact iD _
theorem V4(s:List UInt8):aG prog 89 [.c (.d (.s s))] (.agg [.d (.i .i64 1),.d (.s s),.d (.sl [])]):=aG.of_le fun S=>by
 refine zcx [.cell 2 29] func89 ntmps89 ?_;simp -implicitDefEqProofs (disch:=omega) only[go_sem]
 (repeat(with_reducible refine And.intro ?_ ?_;focus first|omega|rfl|assumption|exact⟨_,rfl,rfl⟩|(simp;omega)|(simp;done)))
 exact SQ _ _ _
theorem Da:∀N:Nat,(∀x:ah,SizeOf.sizeOf x<N->x.sz<=4194304->aG prog 66 [x.v] (dI false x).v)
 |0=>fun x h=>by omega
 |N+1=>by
  have ih:=Da N;intro x hn hsz;have je:=ah.oP x;have h1:=iy x;have h2:=CG x;have hx:=SL false x
  have hall:∀t∈x.aj,t.sz<=4194304:=fun t ht=>by have:=jL ht;omega
  refine aG.of_le fun S=> ?_;refine zcx [.cell 2 29] func66 ntmps66 ?_;simp -implicitDefEqProofs (disch:=omega) only[go_sem]
  with_reducible refine aA (fun hb=> ?_) (fun hb=> ?_)<;>have h:=hb<;>(try simp only[wf_preprocess] at h)<;>simp -implicitDefEqProofs (disch:=omega) only[go_sem,hb]<;>(repeat(with_reducible refine And.intro ?_ ?_;focus first|omega|rfl|assumption|exact⟨_,rfl,rfl⟩|(simp;omega)|(simp;done)))
  ·have hne:=h;rw[if_neg h] at hx;have h39:=afX h;have hln:0<x.aQ.length:=List.length_pos_iff.2 hne;have hsl:=JW x.aQ x.aQ.length (Nat.le_refl _)
   (repeat(with_reducible refine And.intro ?_ ?_;focus first|omega|rfl|assumption|exact⟨_,rfl,rfl⟩|(simp;omega)|(simp;done)))
   with_reducible refine aA (fun hb=> ?_) (fun hb=> ?_)<;>have h:=hb<;>(try simp only[wf_preprocess] at h)<;>simp -implicitDefEqProofs (disch:=omega) only[go_sem,hb]<;>(repeat(with_reducible refine And.intro ?_ ?_;focus first|omega|rfl|assumption|exact⟨_,rfl,rfl⟩|(simp;omega)|(simp;done)))
   ·rw[if_pos (h39.1 h)] at hx
    (repeat(with_reducible refine And.intro ?_ ?_;focus first|omega|rfl|assumption|exact⟨_,rfl,rfl⟩|(simp;omega)|(simp;done)))
    rw[hsl];refine au (V4 _) ?_;simp -implicitDefEqProofs (disch:=omega) only[go_sem];exact acX hx
   ·rw[if_neg (fun e=>h (h39.2 e))] at hx;refine au (V3 _) ?_;simp -implicitDefEqProofs (disch:=omega) only[go_sem];exact acX hx
  rw[if_pos h] at hx
  with_reducible refine aA (fun hb=> ?_) (fun hb=> ?_)<;>have h:=hb<;>(try simp only[wf_preprocess] at h)<;>simp -implicitDefEqProofs (disch:=omega) only[go_sem,hb]<;>(repeat(with_reducible refine And.intro ?_ ?_;focus first|omega|rfl|assumption|exact⟨_,rfl,rfl⟩|(simp;omega)|(simp;done)))
  ·rw[if_pos (by omega)] at hx;exact acW hx
  rw[if_neg (by omega)] at hx
  have hl2:2<=x.aj.length:=by omega
  have a0:=lK (l:=x.aj) (i:=0) (by omega);have a1:=lK (l:=x.aj) (i:=1) (by omega);obtain⟨T,hT⟩:∃T:Nat->List (List D),T=fun i=>(((x.aj.map (dI false)).drop 1).take i).map ak.enc:=⟨_,rfl⟩
  have hT0:T 0=[]:=by rw[hT];rfl
  have mF:∀i,(T i).length<=i:=fun i=>by rw[hT];simp only[List.length_map];exact List.length_take_le _ _
  have hTr:∀i,∀r∈T i,r.length=3:=fun i=>by
   rw[hT];intro r hr;obtain⟨z,_,rfl⟩:=List.mem_map.1 hr;exact z.bI
  have hTs:∀i (hi:i+1<x.aj.length),T i++[[.i .i64 (dI false x.aj[i+1]).aL,.s (dI false x.aj[i+1]).fName,.sl ((dI false x.aj[i+1]).fArgs.map ak.enc)]]=T (i+1):=fun i hi=>by
   have:=Mf (l:=(x.aj.map (dI false)).drop 1) (i:=i) (by rw[List.length_drop,List.length_map];omega);rw[List.getElem_drop,List.getElem_map] at this;rw[hT];simp only[Nat.add_comm 1 i] at this ⊢;exact this
  have hTe:T (x.aj.length-1)=((x.aj.map (dI false)).drop 1).map ak.enc:=by
   rw[hT];simp only
   rw[List.take_of_length_le (by simp)]
  have hTn:(T (x.aj.length-1)).length=x.aj.length-1:=by rw[hTe];simp
  have hTd:(T (x.aj.length-1)).drop 1=((x.aj.map (dI false)).drop 2).map ak.enc:=by rw[hTe,<-List.map_drop,List.drop_drop]
  clear hT
  (repeat(with_reducible refine And.intro ?_ ?_;focus first|omega|rfl|assumption|exact⟨_,rfl,rfl⟩|(simp;omega)|(simp;done)))
  refine wM 4 3 [] rfl (by simp) ?_
  refine aZ (ι:=Nat) zmx rfl [1,2,3,4,5] (fun i=>[.c (.ptr (0,0) 0),.c (.ptr (0,1) 0),.c (.d (.s x.aj[0].aQ)),.c (.bG (0,2) (T i)),.c (.d (.i .i64 ((i+1:Nat):Int)))])
   (fun i=>[.box [.d (.s x.aQ),.d (.sl (x.aj.map ah.enc))],.box [.d (.i .i64 0),.d (.s []),.bA []],.tok 3 (T i)]::S)
   (fun i=>i+1<=x.aj.length) (fun i=>x.aj.length-(i+1)) 0 (by rw[hT0];rfl) (by rw[hT0];rfl) (by omega) ?_
  intro i hi;have hl:=mF i;simp -implicitDefEqProofs (disch:=omega) only[go_sem]
  with_reducible refine aA (fun hb=> ?_) (fun hb=> ?_)<;>have h:=hb<;>(try simp only[wf_preprocess] at h)<;>simp -implicitDefEqProofs (disch:=omega) only[go_sem,hb]<;>(repeat(with_reducible refine And.intro ?_ ?_;focus first|omega|rfl|assumption|exact⟨_,rfl,rfl⟩|(simp;omega)|(simp;done)))
  ·have hi':i+1<x.aj.length:=by omega
   have hm:=List.getElem_mem hi';have hs:=hTs i hi'
   (repeat(with_reducible refine And.intro ?_ ?_;focus first|omega|rfl|assumption|exact⟨_,rfl,rfl⟩|(simp;omega)|(simp;done)))
   refine au (ih x.aj[i+1] (by have:=List.sizeOf_lt_of_mem hm;omega) (hall _ hm)) ?_;simp -implicitDefEqProofs (disch:=omega) only[go_sem,ak.aB]
   (repeat(with_reducible refine And.intro ?_ ?_;focus first|omega|rfl|assumption|exact⟨_,rfl,rfl⟩|(simp;omega)|(simp;done)))
   rw[hs];exact cK (i+1) (by omega) rfl rfl (by omega)
  have hi':i=x.aj.length-1:=by omega
  subst hi';have hrows:=hTr (x.aj.length-1);have hta:((T (x.aj.length-1)).take (x.aj.length-1))=T (x.aj.length-1):=List.take_of_length_le (by omega);rw[a0,a1] at hx;have tD:x.aj[0].aQ=[100,121,110]/\x.aj.length=2/\x.aj[1].aQ≠[]->dI false x=.mk 4 x.aj[1].aQ []:=fun e=>hx.trans (if_pos ⟨e.1,.inr e.2⟩)
  have tA:x.aj[0].aQ=[97,115,115,111,99]/\x.aj.length=3/\x.aj[1].aQ≠[]->dI false x=.mk 3 x.aj[1].aQ ((x.aj.map (dI false)).drop 2):=fun e=>by
   rw[hx,if_neg (fun e'=>by have:=e'.1.symm.trans e.1;revert this;decide),if_pos ⟨e.1,.inr e.2⟩]
  have tN:¬(x.aj[0].aQ=[100,121,110]/\x.aj.length=2/\x.aj[1].aQ≠[])->¬(x.aj[0].aQ=[97,115,115,111,99]/\x.aj.length=3/\x.aj[1].aQ≠[])->dI false x=.mk 2 x.aj[0].aQ ((x.aj.map (dI false)).drop 1):=fun e1 e2=>by
   rw[hx,if_neg (fun e'=>e1 ⟨e'.1,e'.2.resolve_left (by decide)⟩),if_neg (fun e'=>e2 ⟨e'.1,e'.2.resolve_left (by decide)⟩)]
  clear hx hTs ih
  repeat' (first|(with_reducible refine aA (fun hb=> ?_) (fun hb=> ?_)<;>have h:=hb<;>(try simp only[wf_preprocess] at h)<;>simp -implicitDefEqProofs (disch:=omega) only[go_sem,hb]<;>(repeat(with_reducible refine And.intro ?_ ?_;focus first|omega|rfl|assumption|exact⟨_,rfl,rfl⟩|(simp;omega)|(simp;done)))))
  all_goals first
   |(refine⟨⟨by omega,by omega,hrows⟩,?_⟩;refine afY (tA ⟨by assumption,by omega,by assumption⟩) ?_;rw[hTn,hta,hTd];exact iD _)
   |exact acW (tD ⟨by assumption,by omega,by assumption⟩)
   |(refine afY (tN (fun⟨a,b,c⟩=>by first|contradiction|omega) (fun⟨a,b,c⟩=>by first|contradiction|omega)) ?_;rw[hTe];exact iD _)
   |trace_state
theorem zA(x:ah)(hsz:x.sz<=4194304):aG prog 66 [x.v] (dI false x).v:=Da _ x (Nat.lt_succ_self _) hsz
theorem MS(xs:List ah)(hlen:xs.length<=4194304)(hsz:∀t∈xs,t.sz<=4194304):aG prog 78 [.c (.d (.sl (xs.map ah.enc)))] (.c (.d (.sl ((xs.map (dI false)).map ak.enc)))):=fun S=>by
 refine zcx [.tmp 2] func78 ntmps78 ?_;simp -implicitDefEqProofs (disch:=omega) only[go_sem]
 (repeat(with_reducible refine And.intro ?_ ?_;focus first|omega|rfl|assumption|exact⟨_,rfl,rfl⟩|(simp;omega)|(simp;done)))
 refine wM 3 3 [] rfl (by simp) ?_
 refine aZ (ι:=Nat) zmx rfl [0,3,4] (fun i=>[.c (.d (.sl (xs.map ah.enc))),.c (.bG (0,0) (((xs.map (dI false)).take i).map ak.enc)),.c (.d (.i .i64 i))]) (fun i=>[.tok 3 (((xs.map (dI false)).take i).map ak.enc)]::S)
  (fun i=>i<=xs.length) (fun i=>xs.length-i) 0 rfl rfl (Nat.zero_le _) ?_
 intro i hi
 have hl:(((xs.map (dI false)).take i).map ak.enc).length<=i:=by rw[List.length_map];exact List.length_take_le _ _
 simp -implicitDefEqProofs (disch:=omega) only[go_sem]
 with_reducible refine aA (fun hb=> ?_) (fun hb=> ?_)<;>have h:=hb<;>(try simp only[wf_preprocess] at h)<;>simp -implicitDefEqProofs (disch:=omega) only[go_sem,hb]<;>(repeat(with_reducible refine And.intro ?_ ?_;focus first|omega|rfl|assumption|exact⟨_,rfl,rfl⟩|(simp;omega)|(simp;done)))
 ·have hi':i<xs.length:=by omega
  have hs:=Mf (l:=xs.map (dI false)) (i:=i) (by rw[List.length_map];exact hi');rw[List.getElem_map] at hs
  (repeat(with_reducible refine And.intro ?_ ?_;focus first|omega|rfl|assumption|exact⟨_,rfl,rfl⟩|(simp;omega)|(simp;done)))
  refine au (zA xs[i] (hsz _ (List.getElem_mem hi'))) ?_;simp -implicitDefEqProofs (disch:=omega) only[go_sem]
  (repeat(with_reducible refine And.intro ?_ ?_;focus first|omega|rfl|assumption|exact⟨_,rfl,rfl⟩|(simp;omega)|(simp;done)))
  rw[hs];exact cK (i+1) (by omega) rfl rfl (by omega)
 ·have hi':i=(xs.map (dI false)).length:=by rw[List.length_map];omega
  rw[hi',List.take_length]
theorem JX(s:List UInt8)(hs:s.length<=1073741824):aG prog 212 [.c (.d (.s s)),.c (.d (.s [39]))] (.c (.d (.b (decide (s.head? =some 39))))):=fun S=>by
 refine zcx [.tmp 4] func212 ntmps212 ?_;simp -implicitDefEqProofs (disch:=omega) only[go_sem]
 with_reducible refine aA (fun hb=> ?_) (fun hb=> ?_)<;>have h:=hb<;>(try simp only[wf_preprocess] at h)<;>simp -implicitDefEqProofs (disch:=omega) only[go_sem,hb]<;>(repeat(with_reducible refine And.intro ?_ ?_;focus first|omega|rfl|assumption|exact⟨_,rfl,rfl⟩|(simp;omega)|(simp;done)))
 ·exact aI (decide_eq_decide.2 (RG (by omega)))
 ·have:s=[]:=List.eq_nil_of_length_eq_zero (by omega);subst this;rfl
theorem JY(s:List UInt8)(hs:s.length<=1073741824):aG prog 185 [.c (.d (.s s)),.c (.d (.s [39]))] (.eG [(false,[.d (.s (if s.head? =some 39 then s.tail else s))]),(false,[.d (.b (decide (s.head? =some 39)))])]):=fun S=>by
 refine zcx [.tmp 4,.tmp 5] func185 ntmps185 ?_;simp -implicitDefEqProofs (disch:=omega) only[go_sem];refine au (JX s hs) ?_;simp -implicitDefEqProofs (disch:=omega) only[go_sem]
 with_reducible refine aA (fun hb=> ?_) (fun hb=> ?_)<;>have h:=hb<;>(try simp only[wf_preprocess] at h)<;>simp -implicitDefEqProofs (disch:=omega) only[go_sem,hb]<;>(repeat(with_reducible refine And.intro ?_ ?_;focus first|omega|rfl|assumption|exact⟨_,rfl,rfl⟩|(simp;omega)|(simp;done)))
 ·rw[if_neg h,decide_eq_false h]
 ·have hl:0<s.length:=by
   cases s with
   |nil=>cases h
   |cons _ _=>simp
  (repeat(with_reducible refine And.intro ?_ ?_;focus first|omega|rfl|assumption|exact⟨_,rfl,rfl⟩|(simp;omega)|(simp;done)))
  rw[if_pos h,decide_eq_true h,JW _ _ (Nat.le_refl _)]
theorem PY(s:List UInt8)(hs:s.length<=1073741824):aG prog 128 [.c (.d (.s s)),.c (.d (.s [39]))] (.eG [(false,[.d (.s (if s.head? =some 39 then s.tail else s))]),(false,[.d (.b (decide (s.head? =some 39)))])]):=fun S=>by
 refine zcx [.tmp 4,.tmp 5] func128 ntmps128 ?_;simp -implicitDefEqProofs (disch:=omega) only[go_sem];refine au (JY s hs) ?_;simp -implicitDefEqProofs (disch:=omega) only[go_sem]
theorem Ad(xs:List ah)(hx:xs.length<=1073741824)(n:Nat):aG prog 127 [.c (.d (.sl (xs.map ah.enc)))] (.eG [(false,[.d (.ol n ((fC xs).map encS))]),(false,[.d (.b (allA xs))])]):=aG.of_le fun S=>by
 refine mX (n) (rs:=[.tmp 2,.tmp 3]) zmx func127 ntmps127 rfl rfl rfl rfl rfl ?_;simp -implicitDefEqProofs (disch:=omega) only[go_sem]
 (repeat(with_reducible refine And.intro ?_ ?_;focus first|omega|rfl|assumption|exact⟨_,rfl,rfl⟩|(simp;omega)|(simp;done)))
 refine qB n 4 1 [] (.inl rfl) (by simp) ?_
 refine aZ (ι:=Nat) zmx rfl [4,8,9,10] (fun i=>[.c (.bG (0,1) ((xs.take i).map uq)),.c (.d (.sl (xs.map ah.enc))),.c (.d (.i .i64 xs.length)),.c (.d (.i .i64 i))]) (fun i=>[.seed n,.eD n 1 ((xs.take i).map uq)]::S)
  (fun i=>i<=xs.length/\∀j,∀hj:j<xs.length,j<i->xs[j].aQ≠[]) (fun i=>xs.length-i) 0 rfl rfl ⟨Nat.zero_le _,fun j _ h=>by omega⟩ ?_
 rintro i ⟨p1,p2⟩;have hl:=Gd (l:=xs) (i:=i);simp -implicitDefEqProofs (disch:=omega) only[go_sem,ah.aB]
 with_reducible refine aA (fun hb=> ?_) (fun hb=> ?_)<;>have h:=hb<;>(try simp only[wf_preprocess] at h)<;>simp -implicitDefEqProofs (disch:=omega) only[go_sem,hb]<;>(repeat(with_reducible refine And.intro ?_ ?_;focus first|omega|rfl|assumption|exact⟨_,rfl,rfl⟩|(simp;omega)|(simp;done)))
 ·have hi':i<xs.length:=by omega
  have hs:=Ey hi'
  (repeat(with_reducible refine And.intro ?_ ?_;focus first|omega|rfl|assumption|exact⟨_,rfl,rfl⟩|(simp;omega)|(simp;done)))
  with_reducible refine aA (fun hb=> ?_) (fun hb=> ?_)<;>have h:=hb<;>(try simp only[wf_preprocess] at h)<;>simp -implicitDefEqProofs (disch:=omega) only[go_sem,hb]<;>(repeat(with_reducible refine And.intro ?_ ?_;focus first|omega|rfl|assumption|exact⟨_,rfl,rfl⟩|(simp;omega)|(simp;done)))
  ·obtain⟨e1,e2⟩:=SN hi' h;rw[e1,e2];exact(kZ.cons (.cons (gP n) .nil) (.refl _)).less
  ·(repeat(with_reducible refine And.intro ?_ ?_;focus first|omega|rfl|assumption|exact⟨_,rfl,rfl⟩|(simp;omega)|(simp;done)))
   rw[hs];refine dD 2 (by decide) (i+1) (by omega) rfl rfl rfl rfl ⟨by omega,fun j hj hji=> ?_⟩;by_cases e':j=i
   ·subst e';exact h
   ·exact p2 j hj (by omega)
 ·have hi':i=xs.length:=by omega
  subst hi';obtain⟨e1,e2⟩:=PX fun j hj=>p2 j hj hj;rw[e1,e2,List.take_length];exact iD _
theorem xJ(x:ah)(hx:x.sz<=4194304)(n:Nat):aG prog 57 [x.v] (.c (.d (.ol n ((fC x.aj).map encS)))):=fun S=>by
 have:=iy x;refine zcx [.tmp 2] func57 ntmps57 ?_;simp -implicitDefEqProofs (disch:=omega) only[go_sem];refine au (Ad x.aj (by omega) n) ?_;simp -implicitDefEqProofs (disch:=omega) only[go_sem]
theorem RI(s:List UInt8)(n:Nat):aG prog 129 [.c (.d (.s s))] (.agg [.d (.i .i64 1),.d (.s s),.d (.ol n [])]):=aG.of_le fun S=>by
 refine zcx [.cell 2 29] func129 ntmps129 ?_;simp -implicitDefEqProofs (disch:=omega) only[go_sem]
 (repeat(with_reducible refine And.intro ?_ ?_;focus first|omega|rfl|assumption|exact⟨_,rfl,rfl⟩|(simp;omega)|(simp;done)))
 exact KT _ _ _
theorem RJ(s:List UInt8)(n:Nat):aG prog 130 [.c (.d (.s s))] (.agg [.d (.i .i64 4),.d (.s s),.d (.ol n [])]):=aG.of_le fun S=>by
 refine zcx [.cell 2 29] func130 ntmps130 ?_;simp -implicitDefEqProofs (disch:=omega) only[go_sem]
 (repeat(with_reducible refine And.intro ?_ ?_;focus first|omega|rfl|assumption|exact⟨_,rfl,rfl⟩|(simp;omega)|(simp;done)))
 exact KT _ _ _
theorem xK:∀N:Nat,(∀x:ah,SizeOf.sizeOf x<N->∀n:Nat,x.sz<=4194304->aG prog 59 [x.v] ((dI true x).vl n))/\
 (∀xs:List ah,SizeOf.sizeOf xs<N->∀n q:Nat,xs.length<=4194304->(∀t∈xs,t.sz<=4194304)->aG prog 131 [.c (.d (.sl (xs.map ah.enc)))] (.c (.d (.ol n (lt (xs.map (dI true)) q)))))
 |0=>⟨fun x h=>by omega,fun x h=>by omega⟩
 |N+1=>by
  obtain⟨ih,mo⟩:=xK N;refine⟨fun x hn n hsz=>aG.of_le fun S=> ?_,fun xs hn n q hlen hsz S=> ?_⟩
  ·have je:=ah.oP x;have h1:=iy x;have h2:=CG x;have hx:=SL true x
   have hall:∀t∈x.aj,t.sz<=4194304:=fun t ht=>by have:=jL ht;omega
   refine zcx [.cell 2 29] func59 ntmps59 ?_;simp -implicitDefEqProofs (disch:=omega) only[go_sem]
   with_reducible refine aA (fun hb=> ?_) (fun hb=> ?_)<;>have h:=hb<;>(try simp only[wf_preprocess] at h)<;>simp -implicitDefEqProofs (disch:=omega) only[go_sem,hb]<;>(repeat(with_reducible refine And.intro ?_ ?_;focus first|omega|rfl|assumption|exact⟨_,rfl,rfl⟩|(simp;omega)|(simp;done)))
   ·rw[if_neg h] at hx;refine au (PY x.aQ (by omega)) ?_;simp -implicitDefEqProofs (disch:=omega) only[go_sem]
    with_reducible refine aA (fun hb=> ?_) (fun hb=> ?_)<;>have h:=hb<;>(try simp only[wf_preprocess] at h)<;>simp -implicitDefEqProofs (disch:=omega) only[go_sem,hb]<;>(repeat(with_reducible refine And.intro ?_ ?_;focus first|omega|rfl|assumption|exact⟨_,rfl,rfl⟩|(simp;omega)|(simp;done)))
    ·rw[if_pos h] at hx ⊢;refine au (RI _ n) ?_;simp -implicitDefEqProofs (disch:=omega) only[go_sem];exact Y6 hx
    ·rw[if_neg h] at hx
     (repeat(with_reducible refine And.intro ?_ ?_;focus first|omega|rfl|assumption|exact⟨_,rfl,rfl⟩|(simp;omega)|(simp;done)))
     exact Y5 hx
   rw[if_pos h] at hx
   with_reducible refine aA (fun hb=> ?_) (fun hb=> ?_)<;>have h:=hb<;>(try simp only[wf_preprocess] at h)<;>simp -implicitDefEqProofs (disch:=omega) only[go_sem,hb]<;>(repeat(with_reducible refine And.intro ?_ ?_;focus first|omega|rfl|assumption|exact⟨_,rfl,rfl⟩|(simp;omega)|(simp;done)))
   ·rw[if_pos (by omega)] at hx;exact Y5 hx
   rw[if_neg (by omega)] at hx
   have hl2:2<=x.aj.length:=by omega
   have a0:=lK (l:=x.aj) (i:=0) (by omega);have a1:=lK (l:=x.aj) (i:=1) (by omega);rw[a0,a1] at hx;have hr:=iq (l:=x.aj);have hd:=fun i=>rO x.aj x.aj.length i (Nat.le_refl _);have hso:=fun i=>wB i x.aj
   have hdl:∀i,(x.aj.drop i).length<=4194304:=fun i=>by rw[List.length_drop];omega
   have hda:∀i,∀t∈x.aj.drop i,t.sz<=4194304:=fun i t ht=>hall t (List.mem_of_mem_drop ht)
   (repeat(with_reducible refine And.intro ?_ ?_;focus first|omega|rfl|assumption|exact⟨_,rfl,rfl⟩|(simp;omega)|(simp;done)))
   with_reducible refine aA (fun hb=> ?_) (fun hb=> ?_)<;>have h:=hb<;>(try simp only[wf_preprocess] at h)<;>simp -implicitDefEqProofs (disch:=omega) only[go_sem,hb]<;>(repeat(with_reducible refine And.intro ?_ ?_;focus first|omega|rfl|assumption|exact⟨_,rfl,rfl⟩|(simp;omega)|(simp;done)))
   ·have hx:=hx.trans (if_pos ⟨h,.inl rfl⟩)
    (repeat(with_reducible refine And.intro ?_ ?_;focus first|omega|rfl|assumption|exact⟨_,rfl,rfl⟩|(simp;omega)|(simp;done)))
    refine au (RJ _ n) ?_;simp -implicitDefEqProofs (disch:=omega) only[go_sem];exact Y6 hx
   have hx:=hx.trans (if_neg fun e=>h e.1)
   with_reducible refine aA (fun hb=> ?_) (fun hb=> ?_)<;>have h:=hb<;>(try simp only[wf_preprocess] at h)<;>simp -implicitDefEqProofs (disch:=omega) only[go_sem,hb]<;>(repeat(with_reducible refine And.intro ?_ ?_;focus first|omega|rfl|assumption|exact⟨_,rfl,rfl⟩|(simp;omega)|(simp;done)))
   ·have hx:=hx.trans (if_pos ⟨h,.inl rfl⟩);refine⟨⟨by omega,by omega,hr⟩,?_⟩;rw[hd];refine au (mo (x.aj.drop 2) (by have:=hso 2;omega) n (n+1) (hdl 2) (hda 2)) ?_;simp -implicitDefEqProofs (disch:=omega) only[go_sem];refine acY hx ?_;rw[List.map_drop];exact iD _
   ·have hx:=hx.trans (if_neg fun e=>h e.1);refine⟨⟨by omega,by omega,hr⟩,?_⟩;rw[hd];refine au (mo (x.aj.drop 1) (by have:=hso 1;omega) n (n+1) (hdl 1) (hda 1)) ?_;simp -implicitDefEqProofs (disch:=omega) only[go_sem];refine acY hx ?_;rw[List.map_drop];exact iD _
  ·have Co:=fun(i:Nat) (hi:i<xs.length)=>aey (l:=xs.map (dI true)) (i:=i) (by rw[List.length_map];exact hi) q;refine mX (n) (rs:=[.tmp 2]) zmx func131 ntmps131 rfl rfl rfl rfl rfl ?_;simp -implicitDefEqProofs (disch:=omega) only[go_sem]
   (repeat(with_reducible refine And.intro ?_ ?_;focus first|omega|rfl|assumption|exact⟨_,rfl,rfl⟩|(simp;omega)|(simp;done)))
   refine qB n 3 3 [] (.inl rfl) (by simp) ?_
   refine aZ (ι:=Nat) zmx rfl [3,7,8,9] (fun i=>[.c (.bG (0,1) (lt ((xs.map (dI true)).take i) q)),.c (.d (.sl (xs.map ah.enc))),.c (.d (.i .i64 xs.length)),.c (.d (.i .i64 i))]) (fun i=>[.seed n,.eD n 3 (lt ((xs.map (dI true)).take i) q)]::S)
    (fun i=>i<=xs.length) (fun i=>xs.length-i) 0 rfl rfl (Nat.zero_le _) ?_
   intro i hi;simp -implicitDefEqProofs (disch:=omega) only[go_sem,ah.aB]
   with_reducible refine aA (fun hb=> ?_) (fun hb=> ?_)<;>have h:=hb<;>(try simp only[wf_preprocess] at h)<;>simp -implicitDefEqProofs (disch:=omega) only[go_sem,hb]<;>(repeat(with_reducible refine And.intro ?_ ?_;focus first|omega|rfl|assumption|exact⟨_,rfl,rfl⟩|(simp;omega)|(simp;done)))
   ·have hi':i<xs.length:=by omega
    have hs:=Co i hi';rw[List.getElem_map] at hs
    have hl:(lt ((xs.map (dI true)).take i) q).length<=i:=by rw[Y4];exact List.length_take_le _ _
    (repeat(with_reducible refine And.intro ?_ ?_;focus first|omega|rfl|assumption|exact⟨_,rfl,rfl⟩|(simp;omega)|(simp;done)))
    refine au (ih xs[i] (by have:=List.sizeOf_lt_of_mem (List.getElem_mem hi');omega) (q+gG ((xs.map (dI true)).take i)) (hsz _ (List.getElem_mem hi'))) ?_;simp -implicitDefEqProofs (disch:=omega) only[go_sem]
    (repeat(with_reducible refine And.intro ?_ ?_;focus first|omega|rfl|assumption|exact⟨_,rfl,rfl⟩|(simp;omega)|(simp;done)))
    rw[hs];exact dD 2 (by decide) (i+1) (by omega) rfl rfl rfl rfl (by omega)
   ·have hi':i=(xs.map (dI true)).length:=by rw[List.length_map];omega
    rw[hi',List.take_length]
theorem Db(x:ah)(n:Nat)(hsz:x.sz<=4194304):aG prog 59 [x.v] ((dI true x).vl n):=(xK _).1 x (Nat.lt_succ_self _) n hsz
theorem KU(xs:List ah)(n q:Nat)(hlen:xs.length<=4194304)(hsz:∀t∈xs,t.sz<=4194304):aG prog 131 [.c (.d (.sl (xs.map ah.enc)))] (.c (.d (.ol n (lt (xs.map (dI true)) q)))):=(xK _).2 xs (Nat.lt_succ_self _) n q hlen hsz
theorem V5(x:ah)(s:List UInt8)(k:Nat)(hk:1<=k)(hk2:k<=100)(hsz:x.sz<=4194304):aG prog 56 [x.v,.c (.d (.s s)),.c (.d (.i .i64 k))] (.c (.d (.b (dec (iK x=true/\k<=x.aj.length/\dB x.aj 0=s))))):=fun S=>by
 have h1:=iy x;obtain⟨t,ht⟩:∃t,t=dec (iK x=true/\k<=x.aj.length/\dB x.aj 0=s):=⟨_,rfl⟩;rw[<-ht];refine zcx [.tmp 6] func56 ntmps56 ?_;simp -implicitDefEqProofs (disch:=omega) only[go_sem];refine au (xD x (by omega)) ?_;simp -implicitDefEqProofs (disch:=omega) only[go_sem]
 with_reducible refine aA (fun hb=> ?_) (fun hb=> ?_)<;>have h:=hb<;>(try simp only[wf_preprocess] at h)<;>simp -implicitDefEqProofs (disch:=omega) only[go_sem,hb]<;>(repeat(with_reducible refine And.intro ?_ ?_;focus first|omega|rfl|assumption|exact⟨_,rfl,rfl⟩|(simp;omega)|(simp;done)))
 ·have hv:=h
  with_reducible refine aA (fun hb=> ?_) (fun hb=> ?_)<;>have h:=hb<;>(try simp only[wf_preprocess] at h)<;>simp -implicitDefEqProofs (disch:=omega) only[go_sem,hb]<;>(repeat(with_reducible refine And.intro ?_ ?_;focus first|omega|rfl|assumption|exact⟨_,rfl,rfl⟩|(simp;omega)|(simp;done)))
  ·have hl:0<x.aj.length:=by omega
   have hl2:k<=x.aj.length:=by omega
   have a0:=lK hl
   (repeat(with_reducible refine And.intro ?_ ?_;focus first|omega|rfl|assumption|exact⟨_,rfl,rfl⟩|(simp;omega)|(simp;done)))
   refine aI ?_;rw[jr,ht];exact iT ⟨fun e=>⟨hv,hl2,by rw[a0];exact e⟩,fun e=>by rw[<-a0];exact e.2.2⟩
  ·exact aI (ht.trans (aO fun e=>by omega)).symm
 ·exact aI (ht.trans (aO fun e=>by rw[e.1] at h;cases h)).symm
theorem mG(b:Bool)(x:ah):dN b x=if x.aQ=[] then
 if b=true/\(x.aj.length<2\/dB x.aj 0=gJ/\x.aj.length<3) then lF
 else if dB x.aj 0=lW then .mk 4 [] (dB x.aj 1) 0 jo ((x.aj.map (dN b)).drop 2) []
 else if dB x.aj 0=oC then .mk 6 [] (dB x.aj 1) 0 jo ((x.aj.map (dN b)).drop 2) []
 else if dB x.aj 0=oD then .mk 8 [] (dB x.aj 1) 0 jo ((x.aj.map (dN b)).drop 2) []
 else if dB x.aj 0=lX then .mk 11 (dB x.aj 1) [] 0 jo ((x.aj.map (dN b)).drop 2) []
 else if dB x.aj 0=gJ then .mk 5 (dB x.aj 1) (dB x.aj 2) 0 jo ((x.aj.map (dN b)).drop 3) []
 else if dB x.aj 0=sD then .mk 9 [] [] 0 jo ((x.aj.map (dN b)).drop 1) []
 else if dB x.aj 0=pq then .mk 12 [] [] 0 (dI b (x.aj.getD 1 eH)) ((x.aj.map (dN b)).drop 2) []
 else if dB x.aj 0=jf then .mk 7 [] [] 0 jo (((x.aj.map (dN b)).drop 1).take 1) ((x.aj.map (nG b)).drop 2)
 else .mk 10 [] (dB x.aj 0) 0 jo ((x.aj.map (dN b)).drop 1) []
 else match fF x.aQ with
  |some n=>.mk 1 [] [] n jo [] []
  |none=>if x.aQ=wu then .mk 2 [] [] 1 jo [] [] else if x.aQ=uY then .mk 2 [] [] 0 jo [] [] else .mk 3 [] x.aQ 0 jo [] []:=by
 cases x;rw[dN,wX,Aa];rfl
theorem SS(b:Bool)(x:ah)(h:2<=x.aj.length):nG b x=.mk (dB x.aj 0) (fC ((x.aj.drop 1).dropLast)) (dN b (x.aj[x.aj.length-1]'(by omega))):=by
 obtain⟨a,l⟩:=x;simp only[ah.aj] at h ⊢;rw[nG,if_neg (by omega),wX];congr 1;rw[List.getLastD_eq_getLast?,List.getLast?_eq_getElem?,List.length_map,List.getElem?_eq_getElem (by rw[List.length_map];omega)]
 simp
theorem SV(b:Bool)(x:ah)(h:x.aj.length<2):nG b x=.mk [] [] lF:=by
 obtain⟨a,l⟩:=x;rw[nG];exact if_pos h
def sM(b:Bool)(l:List ah):Prop:=¬(b=true/\(l.length<2\/dB l 0=gJ/\l.length<3))
theorem Mg{b:Bool}{x:ah}(ha:x.aQ=[])(hg:sM b x.aj)(h:dB x.aj 0=lW):dN b x=.mk 4 [] (dB x.aj 1) 0 jo ((x.aj.drop 2).map (dN b)) []:=by
 rw[mG,if_pos ha,if_neg hg,if_pos h];simp only[List.map_drop,List.map_take]
theorem PZ{b:Bool}{x:ah}(ha:x.aQ=[])(hg:sM b x.aj)(h:dB x.aj 0=oC):dN b x=.mk 6 [] (dB x.aj 1) 0 jo ((x.aj.drop 2).map (dN b)) []:=by
 rw[mG,if_pos ha,if_neg hg,if_neg (by rw[h];decide),if_pos h];simp only[List.map_drop,List.map_take]
theorem P5{b:Bool}{x:ah}(ha:x.aQ=[])(hg:sM b x.aj)(h:dB x.aj 0=oD):dN b x=.mk 8 [] (dB x.aj 1) 0 jo ((x.aj.drop 2).map (dN b)) []:=by
 rw[mG,if_pos ha,if_neg hg,if_neg (by rw[h];decide),if_neg (by rw[h];decide),if_pos h];simp only[List.map_drop,List.map_take]
theorem Mh{b:Bool}{x:ah}(ha:x.aQ=[])(hg:sM b x.aj)(h:dB x.aj 0=lX):dN b x=.mk 11 (dB x.aj 1) [] 0 jo ((x.aj.drop 2).map (dN b)) []:=by
 rw[mG,if_pos ha,if_neg hg,if_neg (by rw[h];decide),if_neg (by rw[h];decide),if_neg (by rw[h];decide),if_pos h];simp only[List.map_drop,List.map_take]
theorem Gf{b:Bool}{x:ah}(ha:x.aQ=[])(hg:sM b x.aj)(h:dB x.aj 0=gJ):dN b x=.mk 5 (dB x.aj 1) (dB x.aj 2) 0 jo ((x.aj.drop 3).map (dN b)) []:=by
 rw[mG,if_pos ha,if_neg hg,if_neg (by rw[h];decide),if_neg (by rw[h];decide),if_neg (by rw[h];decide),if_neg (by rw[h];decide),if_pos h];simp only[List.map_drop,List.map_take]
theorem SX{b:Bool}{x:ah}(ha:x.aQ=[])(hg:sM b x.aj)(h:dB x.aj 0=sD):dN b x=.mk 9 [] [] 0 jo ((x.aj.drop 1).map (dN b)) []:=by
 rw[mG,if_pos ha,if_neg hg,if_neg (by rw[h];decide),if_neg (by rw[h];decide),if_neg (by rw[h];decide),if_neg (by rw[h];decide),if_neg (by rw[h];decide),if_pos h];simp only[List.map_drop,List.map_take]
theorem P6{b:Bool}{x:ah}(ha:x.aQ=[])(hg:sM b x.aj)(h:dB x.aj 0=pq):dN b x=.mk 12 [] [] 0 (dI b (x.aj.getD 1 eH)) ((x.aj.drop 2).map (dN b)) []:=by
 rw[mG,if_pos ha,if_neg hg,if_neg (by rw[h];decide),if_neg (by rw[h];decide),if_neg (by rw[h];decide),if_neg (by rw[h];decide),if_neg (by rw[h];decide),if_neg (by rw[h];decide),if_pos h];simp only[List.map_drop,List.map_take]
theorem Mi{b:Bool}{x:ah}(ha:x.aQ=[])(hg:sM b x.aj)(h:dB x.aj 0=jf):dN b x=.mk 7 [] [] 0 jo (((x.aj.drop 1).take 1).map (dN b)) ((x.aj.drop 2).map (nG b)):=by
 rw[mG,if_pos ha,if_neg hg,if_neg (by rw[h];decide),if_neg (by rw[h];decide),if_neg (by rw[h];decide),if_neg (by rw[h];decide),if_neg (by rw[h];decide),if_neg (by rw[h];decide),if_neg (by rw[h];decide),if_pos h];simp only[List.map_drop,List.map_take]
theorem Mj{b:Bool}{x:ah}(ha:x.aQ=[])(hg:sM b x.aj)(h0:dB x.aj 0≠lW)(h1:dB x.aj 0≠oC)(h2:dB x.aj 0≠oD)(h3:dB x.aj 0≠lX)(h4:dB x.aj 0≠gJ)(h5:dB x.aj 0≠sD)(h6:dB x.aj 0≠pq)(h7:dB x.aj 0≠jf):dN b x=.mk 10 [] (dB x.aj 0) 0 jo ((x.aj.drop 1).map (dN b)) []:=by
 rw[mG,if_pos ha,if_neg hg,if_neg h0,if_neg h1,if_neg h2,if_neg h3,if_neg h4,if_neg h5,if_neg h6,if_neg h7];simp only[List.map_drop,List.map_take]
theorem Mk{x:ah}(ha:x.aQ=[])(hg:¬sM true x.aj):dN true x=lF:=by
 rw[mG,if_pos ha,if_pos (Decidable.not_not.1 hg)]
theorem P7{b:Bool}{x:ah}{n:Int}(ha:x.aQ≠[])(h:fF x.aQ=some n):dN b x=.mk 1 [] [] n jo [] []:=by
 rw[mG,if_neg ha,h]
theorem Ml{b:Bool}{x:ah}(ha:x.aQ≠[])(h:fF x.aQ=none)(h1:x.aQ=wu):dN b x=.mk 2 [] [] 1 jo [] []:=by
 rw[mG,if_neg ha,h];exact if_pos h1
theorem JZ{b:Bool}{x:ah}(ha:x.aQ≠[])(h:fF x.aQ=none)(h1:x.aQ≠wu)(h2:x.aQ=uY):dN b x=.mk 2 [] [] 0 jo [] []:=by
 rw[mG,if_neg ha,h];exact(if_neg h1).trans (if_pos h2)
theorem P8{b:Bool}{x:ah}(ha:x.aQ≠[])(h:fF x.aQ=none)(h1:x.aQ≠wu)(h2:x.aQ≠uY):dN b x=.mk 3 [] x.aQ 0 jo [] []:=by
 rw[mG,if_neg ha,h];exact(if_neg h1).trans (if_neg h2)
def lE(l:List ay)(n:Nat):List (List D):=eP (l.map ay.enc) n
def mH(l:List ay):Nat:=nZ (l.map ay.enc)
def lM(l:List aM)(n:Nat):List (List D):=eP (l.map aM.enc) n
def V6(l:List aM):Nat:=nZ (l.map aM.enc)
abbrev ay.vl(x:ay)(n:Nat):V:=.agg [.d (.i .i64 x.aL),.d (.s x.bE),.d (.s x.fName),.d (.i .i64 x.fN),.d (.i .i64 x.fType.aL),.d (.s x.fType.fName),.d (.ol n (lt x.fType.fArgs (n+1))),
 .d (.ol (n+(gG x.fType.fArgs+1)) (lE x.fArgs (n+(gG x.fType.fArgs+1)+1))),.d (.ol (n+(gG x.fType.fArgs+1)+(mH x.fArgs+1)) (lM x.aK (n+(gG x.fType.fArgs+1)+(mH x.fArgs+1)+1)))]
theorem P9(x:ay)(n:Nat):dS x.enc n=[.i .i64 x.aL,.s x.bE,.s x.fName,.i .i64 x.fN,.i .i64 x.fType.aL,.s x.fType.fName,.ol n (lt x.fType.fArgs (n+1)),
 .ol (n+(gG x.fType.fArgs+1)) (lE x.fArgs (n+(gG x.fType.fArgs+1)+1)),.ol (n+(gG x.fType.fArgs+1)+(mH x.fArgs+1)) (lM x.aK (n+(gG x.fType.fArgs+1)+(mH x.fArgs+1)+1))]:=by
 simp only[ay.aB,ak.aB,List.cons_append,List.nil_append,dS,lJ,oV,Nat.add_zero,lt,lE,lM,gG,mH]
theorem acd(x:aM)(n:Nat):dS x.enc n=[.s x.bS,.ol n (x.aX.map encS)]++dS x.fBody.enc (n+1):=by
 rw[aM.aB,F3];simp only[dS,lJ,p9,oV,Nat.add_zero,Ck,Hf,Nat.zero_add]
abbrev aM.vl(x:aM)(n:Nat):V:=.agg [.d (.s x.bS),.d (.ol n (x.aX.map encS)),.d (.i .i64 x.fBody.aL),.d (.s x.fBody.bE),.d (.s x.fBody.fName),.d (.i .i64 x.fBody.fN),.d (.i .i64 x.fBody.fType.aL),.d (.s x.fBody.fType.fName),.d (.ol (n+1) (lt x.fBody.fType.fArgs (n+1+1))),
 .d (.ol (n+1+(gG x.fBody.fType.fArgs+1)) (lE x.fBody.fArgs (n+1+(gG x.fBody.fType.fArgs+1)+1))),.d (.ol (n+1+(gG x.fBody.fType.fArgs+1)+(mH x.fBody.fArgs+1)) (lM x.fBody.aK (n+1+(gG x.fBody.fType.fArgs+1)+(mH x.fBody.fArgs+1)+1)))]
theorem Y7(l:List ay)(n:Nat):(lE l n).length=l.length:=by unfold lE;rw[kT,List.length_map]
theorem Y8(l:List aM)(n:Nat):(lM l n).length=l.length:=by unfold lM;rw[kT,List.length_map]
theorem aez{l:List ay}{i:Nat}(hi:i<l.length)(n:Nat):lE (l.take i) n++[dS l[i].enc (n+mH (l.take i))]=lE (l.take (i+1)) n:=by
 rw[List.take_succ_eq_append_getElem hi];unfold lE mH;rw[List.map_append,oW];rfl
theorem aeA{l:List aM}{i:Nat}(hi:i<l.length)(n:Nat):lM (l.take i) n++[dS l[i].enc (n+V6 (l.take i))]=lM (l.take (i+1)) n:=by
 rw[List.take_succ_eq_append_getElem hi];unfold lM V6;rw[List.map_append,oW];rfl
theorem Y9{l:List ay}{i:Nat}(hi:i<l.length):(l.take i).map ay.enc++[l[i].enc]=(l.take (i+1)).map ay.enc:=by
 rw[List.take_succ_eq_append_getElem hi,List.map_append];rfl
theorem Za{l:List aM}{i:Nat}(hi:i<l.length):(l.take i).map aM.enc++[l[i].enc]=(l.take (i+1)).map aM.enc:=by
 rw[List.take_succ_eq_append_getElem hi,List.map_append];rfl
theorem SY{x:ay}{n:Nat}{k N:Int}{tr nm:List UInt8}(h:x=.mk k tr nm N jo [] []):Less (.agg [.d (.i .i64 k),.d (.s tr),.d (.s nm),.d (.i .i64 N),.d (.i .i64 0),.d (.s []),.bA [],.bA [],.bA []]) (x.vl n):=by
 rw[h];exact(eB.cons (.refl _) (.cons (.refl _) (.cons (.refl _) (.cons (.refl _) (.cons (.refl _) (.cons (.refl _) (.cons (gP _) (.cons (gP _) (.cons (gP _) .nil))))))))).less
theorem Qa{x:ay}{n:Nat}{k N:Int}{tr nm:List UInt8}{args:List ay}(h:x=.mk k tr nm N jo args []):Less (.agg [.d (.i .i64 k),.d (.s tr),.d (.s nm),.d (.i .i64 N),.d (.i .i64 0),.d (.s []),.bA [],.d (.ol (n+1) (lE args (n+1+1))),.bA []]) (x.vl n):=by
 rw[h];exact(eB.cons (.refl _) (.cons (.refl _) (.cons (.refl _) (.cons (.refl _) (.cons (.refl _) (.cons (.refl _) (.cons (gP _) (.cons (.refl _) (.cons (gP _) .nil))))))))).less
theorem ie2{x:ay}{n:Nat}{k N:Int}{tr nm:List UInt8}{ty:ak}{args:List ay}(h:x=.mk k tr nm N ty args []):Less (.agg [.d (.i .i64 k),.d (.s tr),.d (.s nm),.d (.i .i64 N),.d (.i .i64 ty.aL),.d (.s ty.fName),.d (.ol n (lt ty.fArgs (n+1))),.d (.ol (n+(gG ty.fArgs+1)) (lE args (n+(gG ty.fArgs+1)+1))),.bA []]) (x.vl n):=by
 rw[h];exact(eB.cons (.refl _) (.cons (.refl _) (.cons (.refl _) (.cons (.refl _) (.cons (.refl _) (.cons (.refl _) (.cons (.refl _) (.cons (.refl _) (.cons (gP _) .nil))))))))).less
theorem ie3{x:ay}{n:Nat}{k N:Int}{tr nm:List UInt8}{args:List ay}{arms:List aM}(h:x=.mk k tr nm N jo args arms):Less (.agg [.d (.i .i64 k),.d (.s tr),.d (.s nm),.d (.i .i64 N),.d (.i .i64 0),.d (.s []),.bA [],.d (.ol (n+1) (lE args (n+1+1))),.d (.ol (n+1+(mH args+1)) (lM arms (n+1+(mH args+1)+1)))]) (x.vl n):=by
 rw[h];exact(eB.cons (.refl _) (.cons (.refl _) (.cons (.refl _) (.cons (.refl _) (.cons (.refl _) (.cons (.refl _) (.cons (gP _) (.cons (.refl _) (.cons (.refl _) .nil))))))))).less
theorem se0{x:ay}{k N:Int}{tr nm:List UInt8}(h:x=.mk k tr nm N jo [] []):Less (.agg [.d (.i .i64 k),.d (.s tr),.d (.s nm),.d (.i .i64 N),.d (.i .i64 0),.d (.s []),.bA [],.bA [],.bA []]) x.v:=by
 rw[h];exact(eB.cons (.refl _) (.cons (.refl _) (.cons (.refl _) (.cons (.refl _) (.cons (.refl _) (.cons (.refl _) (.cons (jG _) (.cons (jG _) (.cons (jG _) .nil))))))))).less
theorem Qb{x:ay}{k N:Int}{tr nm:List UInt8}{args:List ay}(h:x=.mk k tr nm N jo args []):Less (.agg [.d (.i .i64 k),.d (.s tr),.d (.s nm),.d (.i .i64 N),.d (.i .i64 0),.d (.s []),.bA [],.d (.sl (args.map ay.enc)),.bA []]) x.v:=by
 rw[h];exact(eB.cons (.refl _) (.cons (.refl _) (.cons (.refl _) (.cons (.refl _) (.cons (.refl _) (.cons (.refl _) (.cons (jG _) (.cons (.refl _) (.cons (jG _) .nil))))))))).less
theorem se2{x:ay}{k N:Int}{tr nm:List UInt8}{ty:ak}{args:List ay}(h:x=.mk k tr nm N ty args []):Less (.agg [.d (.i .i64 k),.d (.s tr),.d (.s nm),.d (.i .i64 N),.d (.i .i64 ty.aL),.d (.s ty.fName),.d (.sl (ty.fArgs.map ak.enc)),.d (.sl (args.map ay.enc)),.bA []]) x.v:=by
 rw[h];exact(eB.cons (.refl _) (.cons (.refl _) (.cons (.refl _) (.cons (.refl _) (.cons (.refl _) (.cons (.refl _) (.cons (.refl _) (.cons (.refl _) (.cons (jG _) .nil))))))))).less
theorem se3{x:ay}{k N:Int}{tr nm:List UInt8}{args:List ay}{arms:List aM}(h:x=.mk k tr nm N jo args arms):Less (.agg [.d (.i .i64 k),.d (.s tr),.d (.s nm),.d (.i .i64 N),.d (.i .i64 0),.d (.s []),.bA [],.d (.sl (args.map ay.enc)),.d (.sl (arms.map aM.enc))]) x.v:=by
 rw[h];exact(eB.cons (.refl _) (.cons (.refl _) (.cons (.refl _) (.cons (.refl _) (.cons (.refl _) (.cons (.refl _) (.cons (jG _) (.cons (.refl _) (.cons (.refl _) .nil))))))))).less
theorem RL(l:List ah)(i:Nat):((l.map ah.enc).take l.length).drop (min i l.length)=(l.drop i).map ah.enc:=by
 rw[rO _ _ _ (Nat.le_refl _)];by_cases h:i<=l.length
 ·rw[Nat.min_eq_left h]
 ·rw[Nat.min_eq_right (by omega),List.drop_length,List.drop_of_length_le (by omega)]
theorem aeB(l:List ah):((l.map ah.enc).take (min 2 l.length)).drop 1=((l.drop 1).take 1).map ah.enc:=by
 match l with
 |[]=>rfl
 |[x]=>rfl
 |x::y::l=>simp[show min 2 (l.length+1+1)=2 by omega]
theorem V7(l:List ah)(i:Nat)(h:i<l.length+3):(l.map ah.enc++([[.s [],.sl []],[.s [],.sl []],[.s [],.sl []]]:List (List D))).getD i []=[.s (dB l i),.sl ((l.getD i eH).aj.map ah.enc)]:=by
 rw[List.getD_eq_getElem?_getD,List.getElem?_append];split
 ·rename_i hi;rw[List.length_map] at hi;rw[List.getElem?_map,List.getElem?_eq_getElem hi];simp only[Option.map_some,Option.getD_some];rw[ah.aB,lK hi,List.getD_eq_getElem?_getD,List.getElem?_eq_getElem hi];rfl
 ·rename_i hi;rw[List.length_map] at hi;rw[Bt (by omega),List.getD_eq_getElem?_getD,List.getElem?_eq_none (by omega:l.length<=i),List.length_map]
  have:i-l.length=0\/i-l.length=1\/i-l.length=2:=by omega
  rcases this with e|e|e<;>rw[e]<;>rfl
theorem Mq(l:List ah)(h:2<=l.length):((l.map ah.enc).take ((l.length:Int)-1).toNat).drop 1=((l.drop 1).dropLast).map ah.enc:=by
 rw[show((l.length:Int)-1).toNat=l.length-1 by omega,<-List.map_take,<-List.map_drop,List.dropLast_eq_take,List.length_drop,List.drop_take]
theorem CJ(x:ah)(i:Nat){m:Nat}(h:x.sz<=m):(x.aj.getD i eH).sz<=m:=by
 have:=ab9 x.aj i;have:=iy x;omega
theorem sZ{l:List ah}(h:iY l=true){t:ah}(ht:t∈l):iM t=true:=yw.1 h t ht
theorem og{l:List ah}(h:iY l=true)(i:Nat):iY (l.drop i)=true:=yw.2 fun t ht=>sZ h (List.mem_of_mem_drop ht)
theorem Zb{l:List ah}(h:iY l=true)(i:Nat):iY (l.take i)=true:=yw.2 fun t ht=>sZ h (List.mem_of_mem_take ht)
theorem AJ{α:Type}[SizeOf α]:∀(i:Nat)(l:List α),SizeOf.sizeOf (l.take i)<=SizeOf.sizeOf l
 |0,[]=>by simp
 |0,x::l=>by rw[List.take_zero];simp only[List.cons.sizeOf_spec,List.nil.sizeOf_spec];omega
 |i+1,[]=>by simp
 |i+1,x::l=>by
  have:=AJ i l;rw[List.take_succ_cons];simp only[List.cons.sizeOf_spec];omega
theorem V8(n:Int):aG prog 142 [.c (.d (.i .i64 n))] (.agg [.d (.i .i64 1),.d (.s []),.d (.s []),.d (.i .i64 n),.d (.i .i64 0),.d (.s []),.bA [],.bA [],.bA []]):=fun S=>by
 refine zcx [.cell 2 33] func142 ntmps142 ?_;simp -implicitDefEqProofs (disch:=omega) only[go_sem]
theorem RN(s:List UInt8):aG prog 91 [.c (.d (.s s))] (.agg [.d (.i .i64 3),.d (.s []),.d (.s s),.d (.i .i64 0),.d (.i .i64 0),.d (.s []),.bA [],.bA [],.bA []]):=fun S=>by
 refine zcx [.cell 2 33] func91 ntmps91 ?_;simp -implicitDefEqProofs (disch:=omega) only[go_sem]
theorem EA:∀N:Nat,(∀x:ah,SizeOf.sizeOf x<N->x.sz<=4194304->aG prog 67 [x.v] (dN false x).v)/\
 (∀xs:List ah,SizeOf.sizeOf xs<N->xs.length<=4194304->(∀t∈xs,t.sz<=4194304)->aG prog 143 [.c (.d (.sl (xs.map ah.enc)))] (.c (.d (.sl ((xs.map (dN false)).map ay.enc)))))/\
 (∀x:ah,SizeOf.sizeOf x<N->x.sz<=4194304->aG prog 145 [x.v] (nG false x).v)
 |0=>⟨fun x h=>by omega,fun x h=>by omega,fun x h=>by omega⟩
 |N+1=>by
  obtain⟨ih,mo,ihM⟩:=EA N;refine⟨fun x hn hsz=>aG.of_le fun S=> ?_,fun xs hn hlen hsz S=> ?_,fun x hn hsz=>aG.of_le fun S=> ?_⟩
  ·have je:=ah.oP x;have h1:=iy x;have h2:=CG x
   have hall:∀t∈x.aj,t.sz<=4194304:=fun t ht=>by have:=jL ht;omega
   have hr:=iq (l:=x.aj);have hso:=fun i=>wB i x.aj
   have hdl:∀i,(x.aj.drop i).length<=4194304:=fun i=>by rw[List.length_drop];omega
   have hda:∀i,∀t∈x.aj.drop i,t.sz<=4194304:=fun i t ht=>hall t (List.mem_of_mem_drop ht)
   have hg:sM false x.aj:=fun e=>by cases e.1
   refine zcx [.cell 2 33] func67 ntmps67 ?_;simp -implicitDefEqProofs (disch:=omega) only[go_sem]
   with_reducible refine aA (fun hb=> ?_) (fun hb=> ?_)<;>have h:=hb<;>(try simp only[wf_preprocess] at h)<;>simp -implicitDefEqProofs (disch:=omega) only[go_sem,hb]<;>(repeat(with_reducible refine And.intro ?_ ?_;focus first|omega|rfl|assumption|exact⟨_,rfl,rfl⟩|(simp;omega)|(simp;done)))
   ·have hne:=h;refine au (JV x.aQ (by omega)) ?_
    cases wV:fF x.aQ with
    |some m=>
     simp -implicitDefEqProofs (disch:=omega) only[go_sem,Option.getD_some,Option.isSome_some];refine au (V8 m) ?_;simp -implicitDefEqProofs (disch:=omega) only[go_sem];exact se0 (P7 hne wV)
    |none=>
     simp -implicitDefEqProofs (disch:=omega) only[go_sem,Option.getD_none,Option.isSome_none]
     with_reducible refine aA (fun hb=> ?_) (fun hb=> ?_)<;>have h:=hb<;>(try simp only[wf_preprocess] at h)<;>simp -implicitDefEqProofs (disch:=omega) only[go_sem,hb]<;>(repeat(with_reducible refine And.intro ?_ ?_;focus first|omega|rfl|assumption|exact⟨_,rfl,rfl⟩|(simp;omega)|(simp;done)))
     ·exact se0 (Ml hne wV h)
     have k1:=h
     with_reducible refine aA (fun hb=> ?_) (fun hb=> ?_)<;>have h:=hb<;>(try simp only[wf_preprocess] at h)<;>simp -implicitDefEqProofs (disch:=omega) only[go_sem,hb]<;>(repeat(with_reducible refine And.intro ?_ ?_;focus first|omega|rfl|assumption|exact⟨_,rfl,rfl⟩|(simp;omega)|(simp;done)))
     ·exact se0 (JZ hne wV k1 h)
     have k2:=h;refine au (RN _) ?_;simp -implicitDefEqProofs (disch:=omega) only[go_sem];exact se0 (P8 hne wV k1 k2)
   have ha:=h;have l0:=V7 x.aj 0 (by omega);have l1:=V7 x.aj 1 (by omega);have l2:=V7 x.aj 2 (by omega)
   have hm1:min (1:Int) (x.aj.length:Int)=((min 1 x.aj.length:Nat):Int):=by omega
   have hm2:min (2:Int) (x.aj.length:Int)=((min 2 x.aj.length:Nat):Int):=by omega
   have hm3:min (3:Int) (x.aj.length:Int)=((min 3 x.aj.length:Nat):Int):=by omega
   have hd:=fun i=>RL x.aj i;have hdd:=rO x.aj x.aj.length 1 (Nat.le_refl _);simp -implicitDefEqProofs (disch:=omega) only[go_sem,l0,l1,l2]
   (repeat(with_reducible refine And.intro ?_ ?_;focus first|omega|rfl|assumption|exact⟨_,rfl,rfl⟩|(simp;omega)|(simp;done)))
   with_reducible refine aA (fun hb=> ?_) (fun hb=> ?_)<;>have h:=hb<;>(try simp only[wf_preprocess] at h)<;>simp -implicitDefEqProofs (disch:=omega) only[go_sem,hb,l0,l1,l2]<;>(repeat(with_reducible refine And.intro ?_ ?_;focus first|omega|rfl|assumption|exact⟨_,rfl,rfl⟩|(simp;omega)|(simp;done)))
   ·refine au (qd _ _) ?_;rw[hm2];simp -implicitDefEqProofs (disch:=omega) only[go_sem];refine⟨⟨by omega,by omega,by omega,hr⟩,?_⟩;rw[hd];refine au (mo (x.aj.drop 2) (by have:=hso 2;omega) (hdl 2) (hda 2)) ?_;simp -implicitDefEqProofs (disch:=omega) only[go_sem];exact Qb (Mg ha hg h)
   have V9:=h
   with_reducible refine aA (fun hb=> ?_) (fun hb=> ?_)<;>have h:=hb<;>(try simp only[wf_preprocess] at h)<;>simp -implicitDefEqProofs (disch:=omega) only[go_sem,hb,l0,l1,l2]<;>(repeat(with_reducible refine And.intro ?_ ?_;focus first|omega|rfl|assumption|exact⟨_,rfl,rfl⟩|(simp;omega)|(simp;done)))
   ·refine au (qd _ _) ?_;rw[hm3];simp -implicitDefEqProofs (disch:=omega) only[go_sem];refine⟨⟨by omega,by omega,by omega,hr⟩,?_⟩;rw[hd];refine au (mo (x.aj.drop 3) (by have:=hso 3;omega) (hdl 3) (hda 3)) ?_;simp -implicitDefEqProofs (disch:=omega) only[go_sem];exact Qb (Gf ha hg h)
   have Fz:=h
   with_reducible refine aA (fun hb=> ?_) (fun hb=> ?_)<;>have h:=hb<;>(try simp only[wf_preprocess] at h)<;>simp -implicitDefEqProofs (disch:=omega) only[go_sem,hb,l0,l1,l2]<;>(repeat(with_reducible refine And.intro ?_ ?_;focus first|omega|rfl|assumption|exact⟨_,rfl,rfl⟩|(simp;omega)|(simp;done)))
   ·refine au (qd _ _) ?_;rw[hm2];simp -implicitDefEqProofs (disch:=omega) only[go_sem];refine⟨⟨by omega,by omega,by omega,hr⟩,?_⟩;rw[hd];refine au (mo (x.aj.drop 2) (by have:=hso 2;omega) (hdl 2) (hda 2)) ?_;simp -implicitDefEqProofs (disch:=omega) only[go_sem];exact Qb (PZ ha hg h)
   have nNew:=h
   with_reducible refine aA (fun hb=> ?_) (fun hb=> ?_)<;>have h:=hb<;>(try simp only[wf_preprocess] at h)<;>simp -implicitDefEqProofs (disch:=omega) only[go_sem,hb,l0,l1,l2]<;>(repeat(with_reducible refine And.intro ?_ ?_;focus first|omega|rfl|assumption|exact⟨_,rfl,rfl⟩|(simp;omega)|(simp;done)))
   ·refine au (qd _ _) ?_;rw[hm2];simp -implicitDefEqProofs (disch:=omega) only[go_sem];refine⟨⟨by omega,by omega,by omega,hr⟩,?_⟩;rw[hd];refine au (mo (x.aj.drop 2) (by have:=hso 2;omega) (hdl 2) (hda 2)) ?_;simp -implicitDefEqProofs (disch:=omega) only[go_sem];exact Qb (P5 ha hg h)
   have ace:=h
   with_reducible refine aA (fun hb=> ?_) (fun hb=> ?_)<;>have h:=hb<;>(try simp only[wf_preprocess] at h)<;>simp -implicitDefEqProofs (disch:=omega) only[go_sem,hb,l0,l1,l2]<;>(repeat(with_reducible refine And.intro ?_ ?_;focus first|omega|rfl|assumption|exact⟨_,rfl,rfl⟩|(simp;omega)|(simp;done)))
   ·have hpos:0<x.aj.length:=by
     rcases Nat.eq_zero_or_pos x.aj.length with e|e
     ·rw[Bt (by omega)] at h;cases h
     ·exact e
    refine⟨⟨by omega,by omega,hr⟩,?_⟩;rw[hdd];refine au (mo (x.aj.drop 1) (by have:=hso 1;omega) (hdl 1) (hda 1)) ?_;simp -implicitDefEqProofs (disch:=omega) only[go_sem];exact Qb (SX ha hg h)
   have nIf:=h
   with_reducible refine aA (fun hb=> ?_) (fun hb=> ?_)<;>have h:=hb<;>(try simp only[wf_preprocess] at h)<;>simp -implicitDefEqProofs (disch:=omega) only[go_sem,hb,l0,l1,l2]<;>(repeat(with_reducible refine And.intro ?_ ?_;focus first|omega|rfl|assumption|exact⟨_,rfl,rfl⟩|(simp;omega)|(simp;done)))
   ·refine au (qd _ _) ?_;rw[hm2];simp -implicitDefEqProofs (disch:=omega) only[go_sem];refine⟨⟨by omega,by omega,by omega,hr⟩,?_⟩;rw[hd];refine au (mo (x.aj.drop 2) (by have:=hso 2;omega) (hdl 2) (hda 2)) ?_;simp -implicitDefEqProofs (disch:=omega) only[go_sem];exact Qb (Mh ha hg h)
   have Wd:=h
   with_reducible refine aA (fun hb=> ?_) (fun hb=> ?_)<;>have h:=hb<;>(try simp only[wf_preprocess] at h)<;>simp -implicitDefEqProofs (disch:=omega) only[go_sem,hb,l0,l1,l2]<;>(repeat(with_reducible refine And.intro ?_ ?_;focus first|omega|rfl|assumption|exact⟨_,rfl,rfl⟩|(simp;omega)|(simp;done)))
   ·refine au (zA (x.aj.getD 1 eH) (CJ x 1 hsz)) ?_;simp -implicitDefEqProofs (disch:=omega) only[go_sem];refine au (qd _ _) ?_;rw[hm2];simp -implicitDefEqProofs (disch:=omega) only[go_sem];refine⟨⟨by omega,by omega,by omega,hr⟩,?_⟩;rw[hd];refine au (mo (x.aj.drop 2) (by have:=hso 2;omega) (hdl 2) (hda 2)) ?_;simp -implicitDefEqProofs (disch:=omega) only[go_sem];exact se2 (P6 ha hg h)
   have nThe:=h
   with_reducible refine aA (fun hb=> ?_) (fun hb=> ?_)<;>have h:=hb<;>(try simp only[wf_preprocess] at h)<;>simp -implicitDefEqProofs (disch:=omega) only[go_sem,hb,l0,l1,l2]<;>(repeat(with_reducible refine And.intro ?_ ?_;focus first|omega|rfl|assumption|exact⟨_,rfl,rfl⟩|(simp;omega)|(simp;done)))
   ·have hpos:0<x.aj.length:=by
     rcases Nat.eq_zero_or_pos x.aj.length with e|e
     ·rw[Bt (by omega)] at h;cases h
     ·exact e
    have hdec:=Mi ha hg h;refine au (qd _ _) ?_;rw[hm2];simp -implicitDefEqProofs (disch:=omega) only[go_sem];refine⟨⟨by omega,by omega,hr⟩,?_⟩;rw[aeB];refine au (mo ((x.aj.drop 1).take 1) (by have:=hso 1;have:=AJ 1 (x.aj.drop 1);omega) (by rw[List.length_take];omega) (fun t ht=>hda 1 t (List.mem_of_mem_take ht))) ?_;simp -implicitDefEqProofs (disch:=omega) only[go_sem];obtain⟨uL,Wh⟩:∃uL,uL=((x.aj.drop 1).take 1).map (dN false):=⟨_,rfl⟩;obtain⟨T,hT⟩:∃T:Nat->List (List D),T=fun k=>(((x.aj.drop 2).map (nG false)).take k).map aM.enc:=⟨_,rfl⟩
    have hT0:T 0=[]:=by rw[hT];rfl
    have mF:∀k,(T k).length<=k:=fun k=>by rw[hT];simp only[List.length_map];exact List.length_take_le _ _
    have hTs:∀k (hk:k+2<x.aj.length),T k++[(nG false x.aj[k+2]).enc]=T (k+1):=fun k hk=>by
     have:=Za (l:=(x.aj.drop 2).map (nG false)) (i:=k) (by rw[List.length_map,List.length_drop];omega);rw[List.getElem_map,List.getElem_drop] at this;rw[hT];simp only[Nat.add_comm 2 k] at this ⊢;exact this
    have hTe:T (x.aj.length-2)=((x.aj.drop 2).map (nG false)).map aM.enc:=by
     rw[hT];simp only
     rw[List.take_of_length_le (by simp)]
    clear hT;rw[<-Wh] at hdec ⊢;refine zY 3 8 11 _ rfl rfl ?_
    refine aZ (ι:=Nat) zmx rfl [1,2,6,8,9] (fun k=>[.c (.ptr (0,0) 0),.c (.ptr (0,1) 0),.c (.d (.i .i64 x.aj.length)),.c (.ptr (0,3) 0),.c (.d (.i .i64 ((k+2:Nat):Int)))])
     (fun k=>[.box [.d (.s x.aQ),.d (.sl (x.aj.map ah.enc))],.box [.d (.i .i64 0),.d (.s []),.d (.s []),.d (.i .i64 0),.d (.i .i64 0),.d (.s []),.bA [],.bA [],.bA []],.tok 2 (x.aj.map ah.enc++[[.s [],.sl []],[.s [],.sl []],[.s [],.sl []]]),
       .box [.d (.i .i64 7),.d (.s []),.d (.s []),.d (.i .i64 0),.d (.i .i64 0),.d (.s []),.bA [],.d (.sl (uL.map ay.enc)),.bG (0,4) (T k)],.tok 11 (T k)]::S)
     (fun k=>k<=x.aj.length-2) (fun k=>x.aj.length-(k+2)) 0 rfl (by rw[hT0];rfl) (Nat.zero_le _) ?_
    intro k hk;have hlk:=mF k;clear l0 l1 l2;simp -implicitDefEqProofs (disch:=omega) only[go_sem]
    with_reducible refine aA (fun hb=> ?_) (fun hb=> ?_)<;>have h:=hb<;>(try simp only[wf_preprocess] at h)<;>simp -implicitDefEqProofs (disch:=omega) only[go_sem,hb]<;>(repeat(with_reducible refine And.intro ?_ ?_;focus first|omega|rfl|assumption|exact⟨_,rfl,rfl⟩|(simp;omega)|(simp;done)))
    ·have hk':k+2<x.aj.length:=by omega
     have hm:=List.getElem_mem hk';have hs:=hTs k hk';simp only[aM.aB,ay.aB,ak.aB,List.cons_append,List.nil_append] at hs
     (repeat(with_reducible refine And.intro ?_ ?_;focus first|omega|rfl|assumption|exact⟨_,rfl,rfl⟩|(simp;omega)|(simp;done)))
     refine au (ihM x.aj[k+2] (by have:=List.sizeOf_lt_of_mem hm;omega) (hall _ hm)) ?_;simp -implicitDefEqProofs (disch:=omega) only[go_sem]
     (repeat(with_reducible refine And.intro ?_ ?_;focus first|omega|rfl|assumption|exact⟨_,rfl,rfl⟩|(simp;omega)|(simp;done)))
     rw[hs];exact cK (k+1) (by omega) rfl rfl (by omega)
    ·have hk':k=x.aj.length-2:=by omega
     subst hk';rw[hTe];exact se3 hdec
   have Wi:=h;refine au (qd _ _) ?_;rw[hm1];simp -implicitDefEqProofs (disch:=omega) only[go_sem];refine⟨⟨by omega,by omega,by omega,hr⟩,?_⟩;rw[hd];refine au (mo (x.aj.drop 1) (by have:=hso 1;omega) (hdl 1) (hda 1)) ?_;simp -implicitDefEqProofs (disch:=omega) only[go_sem];exact Qb (Mj ha hg V9 nNew ace Wd Fz nIf nThe Wi)
  ·have Co:=fun(i:Nat) (hi:i<xs.length)=>Y9 (l:=xs.map (dN false)) (i:=i) (by rw[List.length_map];exact hi);refine zcx [.tmp 2] func143 ntmps143 ?_;simp -implicitDefEqProofs (disch:=omega) only[go_sem]
   (repeat(with_reducible refine And.intro ?_ ?_;focus first|omega|rfl|assumption|exact⟨_,rfl,rfl⟩|(simp;omega)|(simp;done)))
   refine wM 3 9 [] rfl (by simp) ?_
   refine aZ (ι:=Nat) zmx rfl [0,3,4] (fun i=>[.c (.d (.sl (xs.map ah.enc))),.c (.bG (0,0) (((xs.map (dN false)).take i).map ay.enc)),.c (.d (.i .i64 i))]) (fun i=>[.tok 9 (((xs.map (dN false)).take i).map ay.enc)]::S)
    (fun i=>i<=xs.length) (fun i=>xs.length-i) 0 rfl rfl (Nat.zero_le _) ?_
   intro i hi
   have hl:(((xs.map (dN false)).take i).map ay.enc).length<=i:=by rw[List.length_map];exact List.length_take_le _ _
   simp -implicitDefEqProofs (disch:=omega) only[go_sem]
   with_reducible refine aA (fun hb=> ?_) (fun hb=> ?_)<;>have h:=hb<;>(try simp only[wf_preprocess] at h)<;>simp -implicitDefEqProofs (disch:=omega) only[go_sem,hb]<;>(repeat(with_reducible refine And.intro ?_ ?_;focus first|omega|rfl|assumption|exact⟨_,rfl,rfl⟩|(simp;omega)|(simp;done)))
   ·have hi':i<xs.length:=by omega
    have hs:=Co i hi';rw[List.getElem_map] at hs;simp only[ay.aB,ak.aB,List.cons_append,List.nil_append] at hs
    (repeat(with_reducible refine And.intro ?_ ?_;focus first|omega|rfl|assumption|exact⟨_,rfl,rfl⟩|(simp;omega)|(simp;done)))
    refine au (ih xs[i] (by have:=List.sizeOf_lt_of_mem (List.getElem_mem hi');omega) (hsz _ (List.getElem_mem hi'))) ?_;simp -implicitDefEqProofs (disch:=omega) only[go_sem]
    (repeat(with_reducible refine And.intro ?_ ?_;focus first|omega|rfl|assumption|exact⟨_,rfl,rfl⟩|(simp;omega)|(simp;done)))
    rw[hs];exact cK (i+1) (by omega) rfl rfl (by omega)
   ·have hi':i=(xs.map (dN false)).length:=by rw[List.length_map];omega
    rw[hi',List.take_length]
  ·have je:=ah.oP x;have h1:=iy x
   have hall:∀t∈x.aj,t.sz<=4194304:=fun t ht=>by have:=jL ht;omega
   have hr:=iq (l:=x.aj);refine zcx [.cell 2 124] func145 ntmps145 ?_;simp -implicitDefEqProofs (disch:=omega) only[go_sem]
   with_reducible refine aA (fun hb=> ?_) (fun hb=> ?_)<;>have h:=hb<;>(try simp only[wf_preprocess] at h)<;>simp -implicitDefEqProofs (disch:=omega) only[go_sem,hb]<;>(repeat(with_reducible refine And.intro ?_ ?_;focus first|omega|rfl|assumption|exact⟨_,rfl,rfl⟩|(simp;omega)|(simp;done)))
   ·rw[SV false x (by omega)];exact(eB.cons (.refl _) (.cons (jG _) (.cons (.refl _) (.cons (.refl _) (.cons (.refl _) (.cons (.refl _) (.cons (.refl _) (.cons (.refl _) (.cons (jG _) (.cons (jG _) (.cons (jG _) .nil))))))))))).less
   have hl2:2<=x.aj.length:=by omega
   have a0:=lK (l:=x.aj) (i:=0) (by omega);have hm:=List.getElem_mem (l:=x.aj) (n:=x.aj.length-1) (by omega);rw[SS false x hl2,a0];refine⟨⟨by omega,by omega,hr⟩,?_⟩;rw[Mq _ hl2];refine au (Ez ((x.aj.drop 1).dropLast) (by rw[List.length_dropLast,List.length_drop];omega)) ?_;simp -implicitDefEqProofs (disch:=omega) only[go_sem]
   (repeat(with_reducible refine And.intro ?_ ?_;focus first|omega|rfl|assumption|exact⟨_,rfl,rfl⟩|(simp;omega)|(simp;done)))
   have el:((x.aj.length:Int)-1).toNat=x.aj.length-1:=by omega
   simp only[el];refine au (ih (x.aj[x.aj.length-1]) (by have:=List.sizeOf_lt_of_mem hm;omega) (hall _ hm)) ?_;simp -implicitDefEqProofs (disch:=omega) only[go_sem];exact iD _
theorem RO(x:ah)(hsz:x.sz<=4194304):aG prog 67 [x.v] (dN false x).v:=(EA _).1 x (Nat.lt_succ_self _) hsz
end Go.Ab