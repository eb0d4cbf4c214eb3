/-
  SEVERAL TEXTS IN ONE (merged by program): contracts and models, each with its own heading.
-/
import Derived.Test.YtlaaknnkeidlbaaGreatDoorPartDedbI
import Derived.Test.YtlaaknnkeidlbaaGreatDoorPartDedbQ
open Go.Proofs Go.Proofs.Tryz
set_option linter.unusedSimpArgs false
set_option linter.unusedVariables false
set_option maxRecDepth 4000
namespace Go.Ab
theorem bS.bounds{x:bS}(h:x.sz<=4194304):x.fName.length<=4194304/\x.bH.length<=4194304/\x.jE.length<=4194304/\∀s∈x.bH,s.length<=4194304:=by
 simp only[bS.sz,bS.aB,bG,dR,D.sz,ai] at h;refine⟨by omega,by omega,by omega,fun s hs=> ?_⟩;have:=YT hs;omega
theorem bD.bounds{x:bD}(h:x.sz<=4194304):x.fName.length<=4194304/\x.oF.length<=4194304/\∀t∈x.oF,t.sz<=4194304:=by
 simp only[bD.sz,bD.aB,bG,dR,D.sz,ai] at h;refine⟨by omega,by omega,fun t ht=> ?_⟩;have hx:t.sz<=bC (x.oF.map au.enc):=iK (cE ht);omega
def cO(l:List ah)(i:Nat):List UInt8:=(l.getD i gF).aI
theorem oL{l:List ah}{i:Nat}(h:i<l.length):cO l i=l[i].aI:=by simp[cO,List.getD,h]
theorem Bj{l:List ah}{i:Nat}(h:l.length<=i):cO l i=[]:=by simp[cO,List.getD,h];rfl
def mY(l:List ah):List (List UInt8):=if l.all (fun x=>decide (x.aI≠[]))=true then l.map ah.aI else []
theorem Qd:∀{vs:List (List UInt8)},(∀v∈vs,v≠[])->mY (aP vs)=vs:=fun {vs} h=>by
 unfold mY aP;rw[if_pos (aS.2 fun x hx=> ?_),fh]
 ·conv=>rhs;rw[<-List.map_id vs]
  rfl
 ·obtain⟨v,hv,rfl⟩:=da.1 hx;exact decide_eq_true (h v hv)
theorem Qe:∀l:List ah,((l.map ah.aI).map List.length).sum<=dD l
 |[]=>by simp[dD]
 |x::l=>by
  have:=Qe l;rw[ag,ag,fb,dD,iQ];omega
theorem Zz(l:List ah):(mY l).length<=l.length/\((mY l).map List.length).sum<=dD l:=by
 unfold mY;split
 ·refine⟨by simp,?_⟩;exact Qe l
 ·simp
mutual
def fq(b:Bool):ah->au
 | .mk a l=>if a=[] then
    if l.length<2 then .mk 0 [] []
    else if cO l 0=Ca/\(b=true\/l.length=2/\cO l 1≠[]) then .mk 4 (cO l 1) []
    else if cO l 0=lV/\(b=true\/l.length=3/\cO l 1≠[]) then .mk 3 (cO l 1) ((l8 b l).drop 2)
    else .mk 2 (cO l 0) ((l8 b l).drop 1)
   else if a.head? =some 39 then .mk 1 a.tail [] else .mk 2 a []
def l8(b:Bool):List ah->List au
 |[]=>[]
 |x::xs=>fq b x::l8 b xs
end
theorem Et(b:Bool):∀l,l8 b l=l.map (fq b)
 |[]=>rfl
 |t::ts=>by rw[l8,ag,Et b ts]
theorem TB(b:Bool)(x:ah):fq b x=if x.aI=[] then
 if x.ak.length<2 then .mk 0 [] []
 else if cO x.ak 0=Ca/\(b=true\/x.ak.length=2/\cO x.ak 1≠[]) then .mk 4 (cO x.ak 1) []
 else if cO x.ak 0=lV/\(b=true\/x.ak.length=3/\cO x.ak 1≠[]) then .mk 3 (cO x.ak 1) ((x.ak.map (fq b)).drop 2)
 else .mk 2 (cO x.ak 0) ((x.ak.map (fq b)).drop 1)
 else if x.aI.head? =some 39 then .mk 1 x.aI.tail [] else .mk 2 x.aI []:=by
 cases x;rw[fq,Et];rfl
theorem JO:∀a b,qU (a++b)=qU a+qU b
 |[],b=>by simp[qU]
 |x::a,b=>by rw[am,qU,qU,JO a b];omega
theorem Qf(l:List au)(i:Nat):qU (l.drop i)<=qU l:=by
 have:=JO (l.take i) (l.drop i);rw[dC] at this;omega
theorem ZA(l:List ah)(i:Nat):(cO l i).length<=dD l:=by
 by_cases h:i<l.length
 ·rw[oL h];have h1:=nD (ap h);rw[iQ] at h1;omega
 ·rw[Bj (by omega)];simp
mutual
theorem TD(b:Bool):∀x:ah,(fq b x).sz<=x.sz
 | .mk a l=>by
   have h1:=GY b l;have h2:=Qf (l8 b l) 2;have h3:=Qf (l8 b l) 1;have h4:=ZA l 0;have h5:=ZA l 1
   have h6:(l8 b l).length=l.length:=by rw[Et,ai]
   rw[iQ,j6];simp only[ah.aI,ah.ak];rw[fq];split
   ·split
    ·rw[qV];simp[au.fName,au.fArgs,qU]
    ·split
     ·rw[qV];simp[au.fName,au.fArgs,qU];omega
     ·have g0:=Eu b l 0;have g1:=Eu b l 1;simp only[cL,Nat.reduceAdd] at g0 g1;split
      ·rw[qV];simp only[au.fName,au.fArgs,bj,h6];omega
      ·rw[qV];simp only[au.fName,au.fArgs,bj,h6];omega
   ·split
    ·rw[qV];simp[au.fName,au.fArgs,qU];omega
    ·rw[qV];simp[au.fName,au.fArgs,qU]
theorem GY(b:Bool):∀l:List ah,qU (l8 b l)<=dD l
 |[]=>by simp[l8,qU]
 |x::xs=>by
  have h1:=TD b x;have h2:=GY b xs;rw[l8,qU,dD];omega
theorem Eu(b:Bool):∀(l:List ah)(i:Nat),qU ((l8 b l).drop (i+1))+(cO l i).length<=dD l
 |[],i=>by simp[l8,qU,Bj]
 |x::xs,0=>by
  have h2:=GY b xs;rw[l8,cY,db,dD,show cO (x::xs) 0=x.aI from rfl,iQ];omega
 |x::xs,i+1=>by
  have h2:=Eu b xs i;rw[l8,cY,dD,show cO (x::xs) (i+1)=cO xs i from rfl];omega
end
theorem Bl{s:List UInt8}(h:validName s=true):s≠[]:=fun e=>by rw[e] at h;have:=iJ h;simp at this
theorem ZB{s:List UInt8}(h:validName s=true):s.head? ≠some 39:=fun e=>by
 have h1:=iJ h;have h2:=h1.2.2 0 (by omega)
 cases s with
 |nil=>cases e
 |cons c s=>
  simp only[List.head?_cons,cb] at e;subst e;simp[lowerB,nV] at h2
theorem acP{s:List UInt8}(h:validName s=true):s≠Ca/\s≠lV:=by
 have h1:=(iJ h).2.1;refine⟨fun e=>h1 (by rw[e];simp[reserved,Ca]),fun e=>h1 (by rw[e];simp[reserved,lV])⟩
mutual
theorem TF(b:Bool):∀t:au,formed t=true->fq b (fP t)=t
 | .mk k n zs=>fun hf=>by
   rw[formed,af] at hf;have hfi:=iJ hf.1;have hzs:=Qg b zs hf.2;rw[fP];by_cases h1:k=1
   ·have hz:zs=[]:=by
     have:zs.length=0:=by omega
     exact bh this
    rw[if_pos h1,aM,fq,if_neg (by simp),if_pos (by simp),hz,h1];rfl
   rw[if_neg h1];by_cases h4:k=4
   ·have hz:zs=[]:=by
     have:zs.length=0:=by omega
     exact bh this
    have hn:validName n=true:=by
     rcases hfi with h|h|h
     ·exact h.2.1
     ·exact h.2.1
     ·omega
    rw[if_pos h4,dh,fq,if_pos rfl,if_neg (by simp),if_pos ⟨rfl,.inr ⟨rfl,Bl hn⟩⟩,hz,h4];rfl
   rw[if_neg h4];by_cases h2:k=2/\zs.length=0
   ·have hz:zs=[]:=bh h2.2
    have hn:n≠[]/\n.head? ≠some 39:=by
     rcases hfi with h|h|h
     ·omega
     ·omega
     ·rcases h.2 with g|g
      ·exact⟨Bl g.1,ZB g.1⟩
      ·rcases iJ g.1 with e|e<;>rw[e]<;>simp
    rw[if_pos h2,aM,fq,if_neg hn.1,if_neg hn.2,hz,h2.1]
   rw[if_neg h2];by_cases h3:k=3
   ·have hz:zs.length=1/\validName n=true:=by
     rcases hfi with h|h|h
     ·omega
     ·exact⟨h.2.2,h.2.1⟩
     ·omega
    rw[if_pos h3,dh,fq,if_pos rfl,if_neg (by simp),if_neg (fun h=>by have:=h.1;simp[cO,aM,ah.aI,Ca,lV] at this),if_pos ⟨rfl,.inr ⟨by rw[vD];simp[hz.1],Bl hz.2⟩⟩];show au.mk 3 n (l8 b (za zs))=_;rw[hzs,h3]
   ·have hn:validName n=true/\zs≠[]:=by
     rcases hfi with h|h|h
     ·omega
     ·omega
     ·rcases h.2 with g|g
      ·exact⟨g.1,fun e=>h2 ⟨h.1,by rw[e];rfl⟩⟩
      ·exact(h2 ⟨h.1,g.2⟩).elim
    have hk:k=2:=by
     rcases hfi with h|h|h
     ·omega
     ·omega
     ·exact h.1
    have hd:=acP hn.1;rw[if_neg h3,dh,fq,if_pos rfl,if_neg (by rw[vD];cases zs with|nil=>exact(hn.2 rfl).elim|cons z zs=>simp),if_neg (fun h=>hd.1 h.1),if_neg (fun h=>hd.2 h.1)];show au.mk 2 n (l8 b (za zs))=_;rw[hzs,hk]
theorem Qg(b:Bool):∀ts:List au,iP ts=true->l8 b (za ts)=ts
 |[],_=>rfl
 |t::ts,h=>by
  rw[iP,af] at h;rw[za,l8,TF b t h.1,Qg b ts h.2]
end
theorem afn{vs:List (List UInt8)}(h:qm vs=true):∀v∈vs,v≠[]:=fun v hv=>by
 unfold qm at h;rw[af] at h;exact Bl (aS.1 h.2 v hv)
theorem GZ:gF.sz=0:=by rw[iQ];simp[gF,ah.aI,ah.ak,bC]
theorem ZC{x:ah}{i:Nat}(hi:i<x.ak.length)(h:x.sz<=4194304):x.ak[i].sz<=4194304:=by
 have:=nD (ap hi);rw[iQ,j6] at h;omega
theorem ZE{x:ah}(h:x.sz<=4194304):x.aI.length<=4194304/\x.ak.length<=4194304:=by
 rw[iQ] at h;omega
theorem wW:∀n:Nat,∀x:ah,SizeOf.sizeOf x<n->∀y:ah,x.sz<=4194304->aF prog 15 [x.v,y.v] (.c (.d (.b (dec (x=y)))))
 |0=>fun x h=>by omega
 |n+1=>by
  have ih:=wW n;intro x hn y hsz S;have aiH:=ah.qj x;have hb:=ZE hsz;refine zcx [.tmp 4] func15 ntmps15 ?_;simp -implicitDefEqProofs (disch:=omega) only[go_sem]
  with_reducible refine ay (fun hb=> ?_) (fun hb=> ?_)<;>have h:=hb<;>(try simp only[wf_preprocess] at h)<;>simp -implicitDefEqProofs (disch:=omega) only[go_sem,hb]<;>(repeat(with_reducible refine And.intro ?_ ?_;focus first|omega|rfl|assumption|exact⟨_,rfl,rfl⟩|(simp;omega)|(simp;done)))
  ·exact aO (aT (fun e=>h (by rw[e]))).symm
  have h1:=h
  with_reducible refine ay (fun hb=> ?_) (fun hb=> ?_)<;>have h:=hb<;>(try simp only[wf_preprocess] at h)<;>simp -implicitDefEqProofs (disch:=omega) only[go_sem,hb]<;>(repeat(with_reducible refine And.intro ?_ ?_;focus first|omega|rfl|assumption|exact⟨_,rfl,rfl⟩|(simp;omega)|(simp;done)))
  ·exact aO (aT (fun e=>h (by rw[e]))).symm
  have hl:x.ak.length=y.ak.length:=by omega
  refine bI (ι:=Nat) zmx rfl [2,3,5] (fun i=>[.c (.ptr (0,0) 0),.c (.ptr (0,1) 0),.c (.d (.i .i64 i))]) (fun i=>[.box [.d (.s x.aI),.d (.sl (x.ak.map ah.enc))],.box [.d (.s y.aI),.d (.sl (y.ak.map ah.enc))]]::S)
   (fun i=>i<=x.ak.length/\∀j,j<i->x.ak[j]? =y.ak[j]?) (fun i=>x.ak.length-i) 0 rfl rfl ⟨ba _,fun j h=>by omega⟩ ?_
  rintro i ⟨p1,p2⟩;simp -implicitDefEqProofs (disch:=omega) only[go_sem,ah.aB]
  with_reducible refine ay (fun hb=> ?_) (fun hb=> ?_)<;>have h:=hb<;>(try simp only[wf_preprocess] at h)<;>simp -implicitDefEqProofs (disch:=omega) only[go_sem,hb]<;>(repeat(with_reducible refine And.intro ?_ ?_;focus first|omega|rfl|assumption|exact⟨_,rfl,rfl⟩|(simp;omega)|(simp;done)))
  ·have hi:i<x.ak.length:=by omega
   have hi':i<y.ak.length:=by omega
   (repeat(with_reducible refine And.intro ?_ ?_;focus first|omega|rfl|assumption|exact⟨_,rfl,rfl⟩|(simp;omega)|(simp;done)))
   refine aA (ih x.ak[i] (by have:=bc (ap hi);omega) y.ak[i] (ZC hi hsz)) ?_;simp -implicitDefEqProofs (disch:=omega) only[go_sem]
   with_reducible refine ay (fun hb=> ?_) (fun hb=> ?_)<;>have h:=hb<;>(try simp only[wf_preprocess] at h)<;>simp -implicitDefEqProofs (disch:=omega) only[go_sem,hb]<;>(repeat(with_reducible refine And.intro ?_ ?_;focus first|omega|rfl|assumption|exact⟨_,rfl,rfl⟩|(simp;omega)|(simp;done)))
   ·exact aO (aT (fun e=>h (by simp only[e]))).symm
   refine bZ (i+1) (by omega) rfl rfl ⟨by omega,fun j hj=> ?_⟩;by_cases e:j=i
   ·subst e;rw[al hi,al hi',h]
   ·exact p2 j (by omega)
  ·have hi:i=x.ak.length:=by omega
   refine aO (cK ?_).symm;refine ah.ext (by first|exact h1|(simp at h1;exact h1)) (dy fun j=> ?_);by_cases hj:j<i
   ·exact p2 j hj
   ·rw[ck (by omega),ck (by omega)]
theorem xJ(x y:ah)(h:x.sz<=4194304):aF prog 15 [x.v,y.v] (.c (.d (.b (dec (x=y))))):=wW _ x (br _) y h
theorem wX:∀n:Nat,(∀x:ah,SizeOf.sizeOf x<n->∀y:ah,x.sz<=4194304->aF prog 29 [x.v,y.v] (.c (.d (.b (dec (x=y))))))/\
 (∀xs:List ah,SizeOf.sizeOf xs<n->∀ys:List ah,xs.length<=4194304->(∀t∈xs,t.sz<=4194304)->aF prog 79 [.c (.d (.sl (xs.map ah.enc))),.c (.d (.sl (ys.map ah.enc))),.c (.fn 29 [])] (.c (.d (.b (dec (xs=ys))))))
 |0=>⟨fun x h=>by omega,fun x h=>by omega⟩
 |n+1=>by
  obtain⟨ih,mD⟩:=wX n;refine⟨fun x hn y hsz S=> ?_,fun xs hn ys hlen hsz S=> ?_⟩
  ·have aiH:=ah.qj x;have hb:=ZE hsz;refine zcx [.tmp 4] func29 ntmps29 ?_;simp -implicitDefEqProofs (disch:=omega) only[go_sem]
   with_reducible refine ay (fun hb=> ?_) (fun hb=> ?_)<;>have h:=hb<;>(try simp only[wf_preprocess] at h)<;>simp -implicitDefEqProofs (disch:=omega) only[go_sem,hb]<;>(repeat(with_reducible refine And.intro ?_ ?_;focus first|omega|rfl|assumption|exact⟨_,rfl,rfl⟩|(simp;omega)|(simp;done)))
   ·have h1:=h
    (repeat(with_reducible refine And.intro ?_ ?_;focus first|omega|rfl|assumption|exact⟨_,rfl,rfl⟩|(simp;omega)|(simp;done)))
    refine aA (mD x.ak (by omega) y.ak (by omega) (fun t ht=>by
     obtain⟨i,hi,e⟩:=cJ ht
     rw[<-e];exact ZC hi hsz)) ?_
    simp -implicitDefEqProofs (disch:=omega) only[go_sem];refine aO (mo ⟨fun e=>ah.ext h1 e,fun e=>by rw[e]⟩)
   ·exact aO (aT (fun e=>h (by rw[e]))).symm
  ·refine zcx [.tmp 6] func79 ntmps79 ?_;simp -implicitDefEqProofs (disch:=omega) only[go_sem]
   with_reducible refine ay (fun hb=> ?_) (fun hb=> ?_)<;>have h:=hb<;>(try simp only[wf_preprocess] at h)<;>simp -implicitDefEqProofs (disch:=omega) only[go_sem,hb]<;>(repeat(with_reducible refine And.intro ?_ ?_;focus first|omega|rfl|assumption|exact⟨_,rfl,rfl⟩|(simp;omega)|(simp;done)))
   ·exact aO (aT (fun e=>h (by rw[e]))).symm
   have hl:xs.length=ys.length:=by omega
   refine bI (ι:=Nat) zmx rfl [1,2,15,16,17] (fun y=>[.c (.d (.sl (ys.map ah.enc))),.c (.fn 29 []),.c (.d (.sl (xs.map ah.enc))),.c (.d (.i .i64 xs.length)),.c (.d (.i .i64 y))]) (fun y=>[]::S)
    (fun i=>i<=xs.length/\∀j,j<i->xs[j]? =ys[j]?) (fun y=>xs.length-y) 0 rfl rfl ⟨ba _,fun j h=>by omega⟩ ?_
   rintro i ⟨p1,p2⟩;simp -implicitDefEqProofs (disch:=omega) only[go_sem]
   with_reducible refine ay (fun hb=> ?_) (fun hb=> ?_)<;>have h:=hb<;>(try simp only[wf_preprocess] at h)<;>simp -implicitDefEqProofs (disch:=omega) only[go_sem,hb]<;>(repeat(with_reducible refine And.intro ?_ ?_;focus first|omega|rfl|assumption|exact⟨_,rfl,rfl⟩|(simp;omega)|(simp;done)))
   ·have hi:i<xs.length:=by omega
    have hi':i<ys.length:=by omega
    (repeat(with_reducible refine And.intro ?_ ?_;focus first|omega|rfl|assumption|exact⟨_,rfl,rfl⟩|(simp;omega)|(simp;done)))
    refine aA (ih xs[i] (by have:=bc (ap hi);omega) ys[i] (hsz _ (ap hi))) ?_;simp -implicitDefEqProofs (disch:=omega) only[go_sem]
    with_reducible refine ay (fun hb=> ?_) (fun hb=> ?_)<;>have h:=hb<;>(try simp only[wf_preprocess] at h)<;>simp -implicitDefEqProofs (disch:=omega) only[go_sem,hb]<;>(repeat(with_reducible refine And.intro ?_ ?_;focus first|omega|rfl|assumption|exact⟨_,rfl,rfl⟩|(simp;omega)|(simp;done)))
    ·exact aO (aT (fun e=>h (by simp only[e]))).symm
    refine iD 0 (by decide) (i+1) (by omega) rfl rfl rfl rfl ⟨by omega,fun j hj=> ?_⟩;by_cases e:j=i
    ·subst e;rw[al hi,al hi',h]
    ·exact p2 j (by omega)
   ·have hi:i=xs.length:=by omega
    refine aO (cK (dy fun j=> ?_)).symm;by_cases hj:j<i
    ·exact p2 j hj
    ·rw[ck (by omega),ck (by omega)]
theorem xK(x y:ah)(h:x.sz<=4194304):aF prog 29 [x.v,y.v] (.c (.d (.b (dec (x=y))))):=(wX _).1 x (br _) y h
theorem vY{α:Type}[SizeOf α]:∀(i:Nat)(l:List α),SizeOf.sizeOf (l.drop i)<=SizeOf.sizeOf l
 |0,l=>by simp
 |i+1,[]=>by simp
 |i+1,x::l=>by
  have:=vY i l;rw[cY];simp only[List.cons.sizeOf_spec];omega
theorem wY(l:List ah)(n i:Nat)(h:l.length<=n):((l.map ah.enc).take n).drop i=(l.drop i).map ah.enc:=by
 rw[cm (by rw[ai];exact h),dg]
theorem acQ(l:List ah)(i:Nat):(l.getD i gF).sz<=dD l:=by
 rw[cr];by_cases h:i<l.length
 ·rw[al h];exact nD (ap h)
 ·rw[ck (by omega)];rw[Option.getD_none,iQ];simp[gF,ah.aI,ah.ak,bC]
theorem sO(x:ah):x.ak.length+dD x.ak<=x.sz:=by rw[iQ,j6];omega
theorem Cq(x:ah):x.aI.length<=x.sz:=by rw[iQ];omega
def tZ(x:ah):List D:=[.s x.aI]
def allA(l:List ah):Bool:=l.all fun x=>decide (x.aI≠[])
theorem TG{l:List ah}{i:Nat}(hi:i<l.length)(h:l[i].aI=[]):allA l=false/\mY l=[]:=by
 have:allA l=false:=by
  unfold allA;rw[List.all_eq_false];exact⟨_,ap hi,by simp[h]⟩
 refine⟨this,?_⟩;unfold mY;unfold allA at this;rw[this];rfl
theorem Qh{l:List ah}(h:∀j (hj:j<l.length),l[j].aI≠[]):allA l=true/\(mY l).map encS=l.map tZ:=by
 have:allA l=true:=by
  unfold allA;rw[aS];intro x hx;obtain⟨j,hj,rfl⟩:=cJ hx;exact decide_eq_true (h j hj)
 refine⟨this,?_⟩;unfold mY;unfold allA at this;rw[this,if_pos rfl,fh];rfl
theorem Ev{l:List ah}{i:Nat}(hi:i<l.length):(l.take i).map tZ++[[.s l[i].aI]]=(l.take (i+1)).map tZ:=by
 rw[bp hi,bi];rfl
theorem Gi{l:List ah}{i:Nat}:((l.take i).map tZ).length<=i:=by rw[ai];exact ci _ _
def lt(l:List au)(n:Nat):List (List D):=fC (l.map au.enc) n
def jH(l:List au):Nat:=pz (l.map au.enc)
theorem afo(x:au)(n:Nat):eu x.enc n=[.i .i64 x.aH,.s x.fName,.ol n (lt x.fArgs (n+1))]:=by
 rw[au.aB];simp only[eu,lS,qz,di,lt]
theorem ZF(l:List au)(n:Nat):(lt l n).length=l.length:=by unfold lt;rw[mR,ai]
theorem afp{l:List au}{i:Nat}(hi:i<l.length)(n:Nat):lt (l.take i) n++[[.i .i64 l[i].aH,.s l[i].fName,.ol (n+jH (l.take i)) (lt l[i].fArgs (n+jH (l.take i)+1))]]=lt (l.take (i+1)) n:=by
 rw[bp hi];unfold lt jH;rw[bi,qX];simp only[ag,az,fC,afo,lt]
theorem ZG{l:List au}{i:Nat}(hi:i<l.length):(l.take i).map au.enc++[[.i .i64 l[i].aH,.s l[i].fName,.sl (l[i].fArgs.map au.enc)]]=(l.take (i+1)).map au.enc:=by
 rw[bp hi,bi];simp only[ag,az,au.aB]
theorem KY(k:Int)(s:List UInt8)(n:Nat):Less (.agg [.d (.i .i64 k),.d (.s s),.bB []]) (.agg [.d (.i .i64 k),.d (.s s),.d (.ol n [])]):=(dV.cons (.refl _) (.cons (.refl _) (.cons (gq n) .nil))).less
theorem TH(k:Int)(s:List UInt8)(es:List (List D)):Less (.agg [.d (.i .i64 k),.d (.s s),.bB es]) (.agg [.d (.i .i64 k),.d (.s s),.d (.sl es)]):=(dV.cons (.refl _) (.cons (.refl _) (.cons (jk es) .nil))).less
theorem ag1{s:List UInt8}(h:s≠[]):((s.getD 0 0).toNat:Int)=39<->s.head? =some 39:=by
 cases s with
 |nil=>exact(h rfl).elim
 |cons b s=>
  simp only[eE,List.head?_cons,cb];constructor
  ·intro e
   have:b.toNat=39:=by omega
   exact UInt8.toNat.inj this
  ·intro e;rw[e];rfl
theorem JQ(s:List UInt8)(n:Nat)(h:s.length<=n):(s.take n).drop 1=s.tail:=by rw[cm h,List.drop_one]
abbrev au.vl(t:au)(n:Nat):V:=.agg [.d (.i .i64 t.aH),.d (.s t.fName),.d (.ol n (lt t.fArgs (n+1)))]
theorem acR(l:List (List UInt8)):pz (l.map encS)=0:=by
 induction l with
 |nil=>rfl
 |cons s l ih=>rw[ag,pz,ih];rfl
theorem ag2{b:Bool}{x:ah}{r:V}{k:Int}{s:List UInt8}{l:List au}(h:fq b x=.mk k s l)(hl:Less r (.agg [.d (.i .i64 k),.d (.s s),.d (.sl (l.map au.enc))])):Less r (fq b x).v:=by rw[h];exact hl
theorem adQ{b:Bool}{x:ah}{k:Int}{s:List UInt8}(h:fq b x=.mk k s []):Less (.agg [.d (.i .i64 k),.d (.s s),.bB []]) (fq b x).v:=by rw[h];exact TH k s []
theorem adR{b:Bool}{x:ah}{k:Int}{s:List UInt8}(h:fq b x=.mk k s []):Less (.agg [.d (.i .i64 k),.d (.s s),.d (.sl [])]) (fq b x).v:=by rw[h];exact iZ _
theorem adS{b:Bool}{x:ah}{r:V}{n:Nat}{k:Int}{s:List UInt8}{l:List au}(h:fq b x=.mk k s l)(hl:Less r (.agg [.d (.i .i64 k),.d (.s s),.d (.ol n (lt l (n+1)))])):Less r ((fq b x).vl n):=by rw[h];exact hl
theorem ZH{b:Bool}{x:ah}{n:Nat}{k:Int}{s:List UInt8}(h:fq b x=.mk k s []):Less (.agg [.d (.i .i64 k),.d (.s s),.bB []]) ((fq b x).vl n):=by rw[h];exact KY k s n
theorem ZI{b:Bool}{x:ah}{n:Nat}{k:Int}{s:List UInt8}(h:fq b x=.mk k s []):Less (.agg [.d (.i .i64 k),.d (.s s),.d (.ol n [])]) ((fq b x).vl n):=by rw[h];exact iZ _
theorem Sn{s:List UInt8}(h:1<=s.length):(s.take 1).drop 0=[39]<->s.head? =some 39:=by
 cases s with
 |nil=>simp at h
 |cons b s=>simp
theorem Qi(xs:List ah)(hx:xs.length<=1073741824):aF prog 73 [.c (.d (.sl (xs.map ah.enc)))] (.dI [(false,[.d (.sl ((mY xs).map encS))]),(false,[.d (.b (allA xs))])]):=aF.of_le fun S=>by
 refine zcx [.tmp 2,.tmp 3] func73 ntmps73 ?_;simp -implicitDefEqProofs (disch:=omega) only[go_sem]
 (repeat(with_reducible refine And.intro ?_ ?_;focus first|omega|rfl|assumption|exact⟨_,rfl,rfl⟩|(simp;omega)|(simp;done)))
 refine Iy 4 1 [] rfl (by simp) ?_
 refine bI (ι:=Nat) zmx rfl [0,4,5] (fun i=>[.c (.d (.sl (xs.map ah.enc))),.c (.bM (0,0) ((xs.take i).map tZ)),.c (.d (.i .i64 i))]) (fun i=>[.tok 1 ((xs.take i).map tZ)]::S)
  (fun i=>i<=xs.length/\∀j,∀hj:j<xs.length,j<i->xs[j].aI≠[]) (fun i=>xs.length-i) 0 rfl rfl ⟨ba _,fun j _ h=>by omega⟩ ?_
 rintro i ⟨p1,p2⟩;have hl:=Gi (l:=xs) (i:=i);simp -implicitDefEqProofs (disch:=omega) only[go_sem,ah.aB]
 with_reducible refine ay (fun hb=> ?_) (fun hb=> ?_)<;>have h:=hb<;>(try simp only[wf_preprocess] at h)<;>simp -implicitDefEqProofs (disch:=omega) only[go_sem,hb]<;>(repeat(with_reducible refine And.intro ?_ ?_;focus first|omega|rfl|assumption|exact⟨_,rfl,rfl⟩|(simp;omega)|(simp;done)))
 ·have hi':i<xs.length:=by omega
  have hs:=Ev hi'
  (repeat(with_reducible refine And.intro ?_ ?_;focus first|omega|rfl|assumption|exact⟨_,rfl,rfl⟩|(simp;omega)|(simp;done)))
  with_reducible refine ay (fun hb=> ?_) (fun hb=> ?_)<;>have h:=hb<;>(try simp only[wf_preprocess] at h)<;>simp -implicitDefEqProofs (disch:=omega) only[go_sem,hb]<;>(repeat(with_reducible refine And.intro ?_ ?_;focus first|omega|rfl|assumption|exact⟨_,rfl,rfl⟩|(simp;omega)|(simp;done)))
  ·obtain⟨e1,e2⟩:=TG hi' h;rw[e1,e2];exact(kE.cons (.cons (jk _) .nil) (.refl _)).less
  ·(repeat(with_reducible refine And.intro ?_ ?_;focus first|omega|rfl|assumption|exact⟨_,rfl,rfl⟩|(simp;omega)|(simp;done)))
   rw[hs];refine bZ (i+1) (by omega) rfl rfl ⟨by omega,fun j hj hji=> ?_⟩;by_cases e':j=i
   ·subst e';exact h
   ·exact p2 j hj (by omega)
 ·have hi':i=xs.length:=by omega
  subst hi';obtain⟨e1,e2⟩:=Qh fun j hj=>p2 j hj hj;rw[e1,e2,co];exact iZ _
theorem rz(a b:Int):aF prog 109 [.c (.d (.i .i64 a)),.c (.d (.i .i64 b))] (.c (.d (.i .i64 (min a b)))):=fun S=>by
 refine zcx [.tmp 4] func109 ntmps109 ?_;simp -implicitDefEqProofs (disch:=omega) only[go_sem]
 with_reducible refine ay (fun hb=> ?_) (fun hb=> ?_)<;>have h:=hb<;>(try simp only[wf_preprocess] at h)<;>simp -implicitDefEqProofs (disch:=omega) only[go_sem,hb]<;>(repeat(with_reducible refine And.intro ?_ ?_;focus first|omega|rfl|assumption|exact⟨_,rfl,rfl⟩|(simp;omega)|(simp;done)))
 ·exact int_eq (by omega)
 ·exact int_eq (by omega)
theorem Wu(s:List UInt8):aF prog 176 [.c (.d (.s s)),.c (.d (.sl []))] (.agg [.d (.i .i64 2),.d (.s s),.d (.sl [])]):=aF.of_le fun S=>by
 refine zcx [.cell 4 26] func176 ntmps176 ?_;simp -implicitDefEqProofs (disch:=omega) only[go_sem]
 (repeat(with_reducible refine And.intro ?_ ?_;focus first|omega|rfl|assumption|exact⟨_,rfl,rfl⟩|(simp;omega)|(simp;done)))
 exact iZ _
theorem Wv(s:List UInt8):aF prog 175 [.c (.d (.s s))] (.agg [.d (.i .i64 1),.d (.s s),.d (.sl [])]):=aF.of_le fun S=>by
 refine zcx [.cell 2 26] func175 ntmps175 ?_;simp -implicitDefEqProofs (disch:=omega) only[go_sem]
 (repeat(with_reducible refine And.intro ?_ ?_;focus first|omega|rfl|assumption|exact⟨_,rfl,rfl⟩|(simp;omega)|(simp;done)))
 exact TH _ _ _
theorem CS:∀N:Nat,(∀x:ah,SizeOf.sizeOf x<N->x.sz<=4194304->aF prog 110 [x.v] (fq false x).v)
 |0=>fun x h=>by omega
 |N+1=>by
  have ih:=CS N;intro x hn hsz;have j4:=ah.qj x;have h1:=sO x;have h2:=Cq x;have hx:=TB false x
  have hall:∀t∈x.ak,t.sz<=4194304:=fun t ht=>by have:=nD ht;omega
  refine aF.of_le fun S=> ?_;refine zcx [.cell 2 26] func110 ntmps110 ?_;simp -implicitDefEqProofs (disch:=omega) only[go_sem]
  with_reducible refine ay (fun hb=> ?_) (fun hb=> ?_)<;>have h:=hb<;>(try simp only[wf_preprocess] at h)<;>simp -implicitDefEqProofs (disch:=omega) only[go_sem,hb]<;>(repeat(with_reducible refine And.intro ?_ ?_;focus first|omega|rfl|assumption|exact⟨_,rfl,rfl⟩|(simp;omega)|(simp;done)))
  ·have hne:=h;rw[if_neg h] at hx;have h39:=ag1 h;have hln:0<x.aI.length:=en.2 hne;have hsl:=JQ x.aI x.aI.length (ax _)
   (repeat(with_reducible refine And.intro ?_ ?_;focus first|omega|rfl|assumption|exact⟨_,rfl,rfl⟩|(simp;omega)|(simp;done)))
   with_reducible refine ay (fun hb=> ?_) (fun hb=> ?_)<;>have h:=hb<;>(try simp only[wf_preprocess] at h)<;>simp -implicitDefEqProofs (disch:=omega) only[go_sem,hb]<;>(repeat(with_reducible refine And.intro ?_ ?_;focus first|omega|rfl|assumption|exact⟨_,rfl,rfl⟩|(simp;omega)|(simp;done)))
   ·rw[if_pos (h39.1 h)] at hx
    (repeat(with_reducible refine And.intro ?_ ?_;focus first|omega|rfl|assumption|exact⟨_,rfl,rfl⟩|(simp;omega)|(simp;done)))
    rw[hsl];refine aA (Wv _) ?_;simp -implicitDefEqProofs (disch:=omega) only[go_sem];exact adR hx
   ·rw[if_neg (fun e=>h (h39.2 e))] at hx;refine aA (Wu _) ?_;simp -implicitDefEqProofs (disch:=omega) only[go_sem];exact adR hx
  rw[if_pos h] at hx
  with_reducible refine ay (fun hb=> ?_) (fun hb=> ?_)<;>have h:=hb<;>(try simp only[wf_preprocess] at h)<;>simp -implicitDefEqProofs (disch:=omega) only[go_sem,hb]<;>(repeat(with_reducible refine And.intro ?_ ?_;focus first|omega|rfl|assumption|exact⟨_,rfl,rfl⟩|(simp;omega)|(simp;done)))
  ·rw[if_pos (by omega)] at hx;exact adQ hx
  rw[if_neg (by omega)] at hx
  have hl2:2<=x.ak.length:=by omega
  have a0:=oL (l:=x.ak) (i:=0) (by omega);have a1:=oL (l:=x.ak) (i:=1) (by omega);obtain⟨T,hT⟩:∃T:Nat->List (List D),T=fun i=>(((x.ak.map (fq false)).drop 1).take i).map au.enc:=⟨_,rfl⟩
  have hT0:T 0=[]:=by rw[hT];rfl
  have Bg:∀i,(T i).length<=i:=fun i=>by rw[hT];simp only[ai];exact ci _ _
  have hTr:∀i,∀r∈T i,r.length=3:=fun i=>by
   rw[hT];intro r hr;obtain⟨z,_,rfl⟩:=da.1 hr;exact z.bF
  have hTs:∀i (hi:i+1<x.ak.length),T i++[[.i .i64 (fq false x.ak[i+1]).aH,.s (fq false x.ak[i+1]).fName,.sl ((fq false x.ak[i+1]).fArgs.map au.enc)]]=T (i+1):=fun i hi=>by
   have:=ZG (l:=(x.ak.map (fq false)).drop 1) (i:=i) (by rw[bj,ai];omega);rw[List.getElem_drop,cj] at this;rw[hT];simp only[dE 1 i] at this ⊢;exact this
  have hTe:T (x.ak.length-1)=((x.ak.map (fq false)).drop 1).map au.enc:=by
   rw[hT];simp only
   rw[cm (by simp)]
  have hTn:(T (x.ak.length-1)).length=x.ak.length-1:=by rw[hTe];simp
  have hTd:(T (x.ak.length-1)).drop 1=((x.ak.map (fq false)).drop 2).map au.enc:=by rw[hTe,<-dg,List.drop_drop]
  clear hT
  (repeat(with_reducible refine And.intro ?_ ?_;focus first|omega|rfl|assumption|exact⟨_,rfl,rfl⟩|(simp;omega)|(simp;done)))
  refine Iy 4 3 [] rfl (by simp) ?_
  refine bI (ι:=Nat) zmx rfl [1,2,3,4,5] (fun i=>[.c (.ptr (0,0) 0),.c (.ptr (0,1) 0),.c (.d (.s x.ak[0].aI)),.c (.bM (0,2) (T i)),.c (.d (.i .i64 ((i+1:Nat):Int)))])
   (fun i=>[.box [.d (.s x.aI),.d (.sl (x.ak.map ah.enc))],.box [.d (.i .i64 0),.d (.s []),.bB []],.tok 3 (T i)]::S)
   (fun i=>i+1<=x.ak.length) (fun i=>x.ak.length-(i+1)) 0 (by rw[hT0];rfl) (by rw[hT0];rfl) (by omega) ?_
  intro i hi;have hl:=Bg i;simp -implicitDefEqProofs (disch:=omega) only[go_sem]
  with_reducible refine ay (fun hb=> ?_) (fun hb=> ?_)<;>have h:=hb<;>(try simp only[wf_preprocess] at h)<;>simp -implicitDefEqProofs (disch:=omega) only[go_sem,hb]<;>(repeat(with_reducible refine And.intro ?_ ?_;focus first|omega|rfl|assumption|exact⟨_,rfl,rfl⟩|(simp;omega)|(simp;done)))
  ·have hi':i+1<x.ak.length:=by omega
   have hm:=ap hi';have hs:=hTs i hi'
   (repeat(with_reducible refine And.intro ?_ ?_;focus first|omega|rfl|assumption|exact⟨_,rfl,rfl⟩|(simp;omega)|(simp;done)))
   refine aA (ih x.ak[i+1] (by have:=bc hm;omega) (hall _ hm)) ?_;simp -implicitDefEqProofs (disch:=omega) only[go_sem,au.aB]
   (repeat(with_reducible refine And.intro ?_ ?_;focus first|omega|rfl|assumption|exact⟨_,rfl,rfl⟩|(simp;omega)|(simp;done)))
   rw[hs];exact bZ (i+1) (by omega) rfl rfl (by omega)
  have hi':i=x.ak.length-1:=by omega
  subst hi';have hrows:=hTr (x.ak.length-1);have hta:((T (x.ak.length-1)).take (x.ak.length-1))=T (x.ak.length-1):=cm (by omega);rw[a0,a1] at hx;have tD:x.ak[0].aI=[100,121,110]/\x.ak.length=2/\x.ak[1].aI≠[]->fq false x=.mk 4 x.ak[1].aI []:=fun e=>hx.trans (if_pos ⟨e.1,.inr e.2⟩)
  have tA:x.ak[0].aI=[97,115,115,111,99]/\x.ak.length=3/\x.ak[1].aI≠[]->fq false x=.mk 3 x.ak[1].aI ((x.ak.map (fq false)).drop 2):=fun e=>by
   rw[hx,if_neg (fun e'=>by have:=e'.1.symm.trans e.1;revert this;decide),if_pos ⟨e.1,.inr e.2⟩]
  have tN:¬(x.ak[0].aI=[100,121,110]/\x.ak.length=2/\x.ak[1].aI≠[])->¬(x.ak[0].aI=[97,115,115,111,99]/\x.ak.length=3/\x.ak[1].aI≠[])->fq false x=.mk 2 x.ak[0].aI ((x.ak.map (fq false)).drop 1):=fun e1 e2=>by
   rw[hx,if_neg (fun e'=>e1 ⟨e'.1,e'.2.resolve_left (by decide)⟩),if_neg (fun e'=>e2 ⟨e'.1,e'.2.resolve_left (by decide)⟩)]
  clear hx hTs ih
  repeat' (first|(with_reducible refine ay (fun hb=> ?_) (fun hb=> ?_)<;>have h:=hb<;>(try simp only[wf_preprocess] at h)<;>simp -implicitDefEqProofs (disch:=omega) only[go_sem,hb]<;>(repeat(with_reducible refine And.intro ?_ ?_;focus first|omega|rfl|assumption|exact⟨_,rfl,rfl⟩|(simp;omega)|(simp;done)))))
  all_goals first
   |(refine⟨⟨by omega,by omega,hrows⟩,?_⟩;refine ag2 (tA ⟨by assumption,by omega,by assumption⟩) ?_;rw[hTn,hta,hTd];exact iZ _)
   |exact adQ (tD ⟨by assumption,by omega,by assumption⟩)
   |(refine ag2 (tN (fun⟨a,b,c⟩=>by first|contradiction|omega) (fun⟨a,b,c⟩=>by first|contradiction|omega)) ?_;rw[hTe];exact iZ _)
   |trace_state
theorem Qj(x:ah)(hsz:x.sz<=4194304):aF prog 110 [x.v] (fq false x).v:=CS _ x (br _) hsz
theorem JR(s:List UInt8)(hs:s.length<=1073741824):aF prog 266 [.c (.d (.s s)),.c (.d (.s [39]))] (.c (.d (.b (decide (s.head? =some 39))))):=fun S=>by
 refine zcx [.tmp 4] func266 ntmps266 ?_;simp -implicitDefEqProofs (disch:=omega) only[go_sem]
 with_reducible refine ay (fun hb=> ?_) (fun hb=> ?_)<;>have h:=hb<;>(try simp only[wf_preprocess] at h)<;>simp -implicitDefEqProofs (disch:=omega) only[go_sem,hb]<;>(repeat(with_reducible refine And.intro ?_ ?_;focus first|omega|rfl|assumption|exact⟨_,rfl,rfl⟩|(simp;omega)|(simp;done)))
 ·exact aO (decide_eq_decide.2 (Sn (by omega)))
 ·have:s=[]:=bh (by omega);subst this;rfl
theorem JU(s:List UInt8)(hs:s.length<=1073741824):aF prog 239 [.c (.d (.s s)),.c (.d (.s [39]))] (.dI [(false,[.d (.s (if s.head? =some 39 then s.tail else s))]),(false,[.d (.b (decide (s.head? =some 39)))])]):=fun S=>by
 refine zcx [.tmp 4,.tmp 5] func239 ntmps239 ?_;simp -implicitDefEqProofs (disch:=omega) only[go_sem];refine aA (JR s hs) ?_;simp -implicitDefEqProofs (disch:=omega) only[go_sem]
 with_reducible refine ay (fun hb=> ?_) (fun hb=> ?_)<;>have h:=hb<;>(try simp only[wf_preprocess] at h)<;>simp -implicitDefEqProofs (disch:=omega) only[go_sem,hb]<;>(repeat(with_reducible refine And.intro ?_ ?_;focus first|omega|rfl|assumption|exact⟨_,rfl,rfl⟩|(simp;omega)|(simp;done)))
 ·rw[if_neg h,decide_eq_false h]
 ·have hl:0<s.length:=by
   cases s with
   |nil=>cases h
   |cons _ _=>simp
  (repeat(with_reducible refine And.intro ?_ ?_;focus first|omega|rfl|assumption|exact⟨_,rfl,rfl⟩|(simp;omega)|(simp;done)))
  rw[if_pos h,decide_eq_true h,JQ _ _ (ax _)]
theorem Qk(s:List UInt8)(hs:s.length<=1073741824):aF prog 181 [.c (.d (.s s)),.c (.d (.s [39]))] (.dI [(false,[.d (.s (if s.head? =some 39 then s.tail else s))]),(false,[.d (.b (decide (s.head? =some 39)))])]):=fun S=>by
 refine zcx [.tmp 4,.tmp 5] func181 ntmps181 ?_;simp -implicitDefEqProofs (disch:=omega) only[go_sem];refine aA (JU s hs) ?_;simp -implicitDefEqProofs (disch:=omega) only[go_sem]
theorem JV(xs:List ah)(hx:xs.length<=1073741824)(n:Nat):aF prog 71 [.c (.d (.sl (xs.map ah.enc)))] (.dI [(false,[.d (.ol n ((mY xs).map encS))]),(false,[.d (.b (allA xs))])]):=aF.of_le fun S=>by
 refine oU (n) (rs:=[.tmp 2,.tmp 3]) zmx func71 ntmps71 rfl rfl rfl rfl rfl ?_;simp -implicitDefEqProofs (disch:=omega) only[go_sem]
 (repeat(with_reducible refine And.intro ?_ ?_;focus first|omega|rfl|assumption|exact⟨_,rfl,rfl⟩|(simp;omega)|(simp;done)))
 refine vv n 4 1 [] (.inl rfl) (by simp) ?_
 refine bI (ι:=Nat) zmx rfl [4,8,9,10] (fun i=>[.c (.bM (0,1) ((xs.take i).map tZ)),.c (.d (.sl (xs.map ah.enc))),.c (.d (.i .i64 xs.length)),.c (.d (.i .i64 i))]) (fun i=>[.seed n,.dY n 1 ((xs.take i).map tZ)]::S)
  (fun i=>i<=xs.length/\∀j,∀hj:j<xs.length,j<i->xs[j].aI≠[]) (fun i=>xs.length-i) 0 rfl rfl ⟨ba _,fun j _ h=>by omega⟩ ?_
 rintro i ⟨p1,p2⟩;have hl:=Gi (l:=xs) (i:=i);simp -implicitDefEqProofs (disch:=omega) only[go_sem,ah.aB]
 with_reducible refine ay (fun hb=> ?_) (fun hb=> ?_)<;>have h:=hb<;>(try simp only[wf_preprocess] at h)<;>simp -implicitDefEqProofs (disch:=omega) only[go_sem,hb]<;>(repeat(with_reducible refine And.intro ?_ ?_;focus first|omega|rfl|assumption|exact⟨_,rfl,rfl⟩|(simp;omega)|(simp;done)))
 ·have hi':i<xs.length:=by omega
  have hs:=Ev hi'
  (repeat(with_reducible refine And.intro ?_ ?_;focus first|omega|rfl|assumption|exact⟨_,rfl,rfl⟩|(simp;omega)|(simp;done)))
  with_reducible refine ay (fun hb=> ?_) (fun hb=> ?_)<;>have h:=hb<;>(try simp only[wf_preprocess] at h)<;>simp -implicitDefEqProofs (disch:=omega) only[go_sem,hb]<;>(repeat(with_reducible refine And.intro ?_ ?_;focus first|omega|rfl|assumption|exact⟨_,rfl,rfl⟩|(simp;omega)|(simp;done)))
  ·obtain⟨e1,e2⟩:=TG hi' h;rw[e1,e2];exact(kE.cons (.cons (gq n) .nil) (.refl _)).less
  ·(repeat(with_reducible refine And.intro ?_ ?_;focus first|omega|rfl|assumption|exact⟨_,rfl,rfl⟩|(simp;omega)|(simp;done)))
   rw[hs];refine iD 2 (by decide) (i+1) (by omega) rfl rfl rfl rfl ⟨by omega,fun j hj hji=> ?_⟩;by_cases e':j=i
   ·subst e';exact h
   ·exact p2 j hj (by omega)
 ·have hi':i=xs.length:=by omega
  subst hi';obtain⟨e1,e2⟩:=Qh fun j hj=>p2 j hj hj;rw[e1,e2,co];exact iZ _
theorem Sq(s:List UInt8)(n:Nat):aF prog 182 [.c (.d (.s s))] (.agg [.d (.i .i64 1),.d (.s s),.d (.ol n [])]):=aF.of_le fun S=>by
 refine zcx [.cell 2 26] func182 ntmps182 ?_;simp -implicitDefEqProofs (disch:=omega) only[go_sem]
 (repeat(with_reducible refine And.intro ?_ ?_;focus first|omega|rfl|assumption|exact⟨_,rfl,rfl⟩|(simp;omega)|(simp;done)))
 exact KY _ _ _
theorem Sr(s:List UInt8)(n:Nat):aF prog 183 [.c (.d (.s s))] (.agg [.d (.i .i64 4),.d (.s s),.d (.ol n [])]):=aF.of_le fun S=>by
 refine zcx [.cell 2 26] func183 ntmps183 ?_;simp -implicitDefEqProofs (disch:=omega) only[go_sem]
 (repeat(with_reducible refine And.intro ?_ ?_;focus first|omega|rfl|assumption|exact⟨_,rfl,rfl⟩|(simp;omega)|(simp;done)))
 exact KY _ _ _
theorem CU:∀N:Nat,(∀x:ah,SizeOf.sizeOf x<N->∀n:Nat,x.sz<=4194304->aF prog 94 [x.v] ((fq true x).vl n))/\
 (∀xs:List ah,SizeOf.sizeOf xs<N->∀n q:Nat,xs.length<=4194304->(∀t∈xs,t.sz<=4194304)->aF prog 184 [.c (.d (.sl (xs.map ah.enc)))] (.c (.d (.ol n (lt (xs.map (fq true)) q)))))
 |0=>⟨fun x h=>by omega,fun x h=>by omega⟩
 |N+1=>by
  obtain⟨ih,mD⟩:=CU N;refine⟨fun x hn n hsz=>aF.of_le fun S=> ?_,fun xs hn n q hlen hsz S=> ?_⟩
  ·have j4:=ah.qj x;have h1:=sO x;have h2:=Cq x;have hx:=TB true x
   have hall:∀t∈x.ak,t.sz<=4194304:=fun t ht=>by have:=nD ht;omega
   refine zcx [.cell 2 26] func94 ntmps94 ?_;simp -implicitDefEqProofs (disch:=omega) only[go_sem]
   with_reducible refine ay (fun hb=> ?_) (fun hb=> ?_)<;>have h:=hb<;>(try simp only[wf_preprocess] at h)<;>simp -implicitDefEqProofs (disch:=omega) only[go_sem,hb]<;>(repeat(with_reducible refine And.intro ?_ ?_;focus first|omega|rfl|assumption|exact⟨_,rfl,rfl⟩|(simp;omega)|(simp;done)))
   ·rw[if_neg h] at hx;refine aA (Qk x.aI (by omega)) ?_;simp -implicitDefEqProofs (disch:=omega) only[go_sem]
    with_reducible refine ay (fun hb=> ?_) (fun hb=> ?_)<;>have h:=hb<;>(try simp only[wf_preprocess] at h)<;>simp -implicitDefEqProofs (disch:=omega) only[go_sem,hb]<;>(repeat(with_reducible refine And.intro ?_ ?_;focus first|omega|rfl|assumption|exact⟨_,rfl,rfl⟩|(simp;omega)|(simp;done)))
    ·rw[if_pos h] at hx ⊢;refine aA (Sq _ n) ?_;simp -implicitDefEqProofs (disch:=omega) only[go_sem];exact ZI hx
    ·rw[if_neg h] at hx
     (repeat(with_reducible refine And.intro ?_ ?_;focus first|omega|rfl|assumption|exact⟨_,rfl,rfl⟩|(simp;omega)|(simp;done)))
     exact ZH hx
   rw[if_pos h] at hx
   with_reducible refine ay (fun hb=> ?_) (fun hb=> ?_)<;>have h:=hb<;>(try simp only[wf_preprocess] at h)<;>simp -implicitDefEqProofs (disch:=omega) only[go_sem,hb]<;>(repeat(with_reducible refine And.intro ?_ ?_;focus first|omega|rfl|assumption|exact⟨_,rfl,rfl⟩|(simp;omega)|(simp;done)))
   ·rw[if_pos (by omega)] at hx;exact ZH hx
   rw[if_neg (by omega)] at hx
   have hl2:2<=x.ak.length:=by omega
   have a0:=oL (l:=x.ak) (i:=0) (by omega);have a1:=oL (l:=x.ak) (i:=1) (by omega);rw[a0,a1] at hx;have hr:=ji (l:=x.ak);have hd:=fun i=>wY x.ak x.ak.length i (ax _);have hso:=fun i=>vY i x.ak
   have hdl:∀i,(x.ak.drop i).length<=4194304:=fun i=>by rw[bj];omega
   have hda:∀i,∀t∈x.ak.drop i,t.sz<=4194304:=fun i t ht=>hall t (eh ht)
   (repeat(with_reducible refine And.intro ?_ ?_;focus first|omega|rfl|assumption|exact⟨_,rfl,rfl⟩|(simp;omega)|(simp;done)))
   with_reducible refine ay (fun hb=> ?_) (fun hb=> ?_)<;>have h:=hb<;>(try simp only[wf_preprocess] at h)<;>simp -implicitDefEqProofs (disch:=omega) only[go_sem,hb]<;>(repeat(with_reducible refine And.intro ?_ ?_;focus first|omega|rfl|assumption|exact⟨_,rfl,rfl⟩|(simp;omega)|(simp;done)))
   ·have hx:=hx.trans (if_pos ⟨h,.inl rfl⟩)
    (repeat(with_reducible refine And.intro ?_ ?_;focus first|omega|rfl|assumption|exact⟨_,rfl,rfl⟩|(simp;omega)|(simp;done)))
    refine aA (Sr _ n) ?_;simp -implicitDefEqProofs (disch:=omega) only[go_sem];exact ZI hx
   have hx:=hx.trans (if_neg fun e=>h e.1)
   with_reducible refine ay (fun hb=> ?_) (fun hb=> ?_)<;>have h:=hb<;>(try simp only[wf_preprocess] at h)<;>simp -implicitDefEqProofs (disch:=omega) only[go_sem,hb]<;>(repeat(with_reducible refine And.intro ?_ ?_;focus first|omega|rfl|assumption|exact⟨_,rfl,rfl⟩|(simp;omega)|(simp;done)))
   ·have hx:=hx.trans (if_pos ⟨h,.inl rfl⟩);refine⟨⟨by omega,by omega,hr⟩,?_⟩;rw[hd];refine aA (mD (x.ak.drop 2) (by have:=hso 2;omega) n (n+1) (hdl 2) (hda 2)) ?_;simp -implicitDefEqProofs (disch:=omega) only[go_sem];refine adS hx ?_;rw[dg];exact iZ _
   ·have hx:=hx.trans (if_neg fun e=>h e.1);refine⟨⟨by omega,by omega,hr⟩,?_⟩;rw[hd];refine aA (mD (x.ak.drop 1) (by have:=hso 1;omega) n (n+1) (hdl 1) (hda 1)) ?_;simp -implicitDefEqProofs (disch:=omega) only[go_sem];refine adS hx ?_;rw[dg];exact iZ _
  ·have Ce:=fun(i:Nat) (hi:i<xs.length)=>afp (l:=xs.map (fq true)) (i:=i) (by rw[ai];exact hi) q;refine oU (n) (rs:=[.tmp 2]) zmx func184 ntmps184 rfl rfl rfl rfl rfl ?_;simp -implicitDefEqProofs (disch:=omega) only[go_sem]
   (repeat(with_reducible refine And.intro ?_ ?_;focus first|omega|rfl|assumption|exact⟨_,rfl,rfl⟩|(simp;omega)|(simp;done)))
   refine vv n 3 3 [] (.inl rfl) (by simp) ?_
   refine bI (ι:=Nat) zmx rfl [3,7,8,9] (fun i=>[.c (.bM (0,1) (lt ((xs.map (fq true)).take i) q)),.c (.d (.sl (xs.map ah.enc))),.c (.d (.i .i64 xs.length)),.c (.d (.i .i64 i))]) (fun i=>[.seed n,.dY n 3 (lt ((xs.map (fq true)).take i) q)]::S)
    (fun i=>i<=xs.length) (fun i=>xs.length-i) 0 rfl rfl (ba _) ?_
   intro i hi;simp -implicitDefEqProofs (disch:=omega) only[go_sem,ah.aB]
   with_reducible refine ay (fun hb=> ?_) (fun hb=> ?_)<;>have h:=hb<;>(try simp only[wf_preprocess] at h)<;>simp -implicitDefEqProofs (disch:=omega) only[go_sem,hb]<;>(repeat(with_reducible refine And.intro ?_ ?_;focus first|omega|rfl|assumption|exact⟨_,rfl,rfl⟩|(simp;omega)|(simp;done)))
   ·have hi':i<xs.length:=by omega
    have hs:=Ce i hi';rw[cj] at hs
    have hl:(lt ((xs.map (fq true)).take i) q).length<=i:=by rw[ZF];exact ci _ _
    (repeat(with_reducible refine And.intro ?_ ?_;focus first|omega|rfl|assumption|exact⟨_,rfl,rfl⟩|(simp;omega)|(simp;done)))
    refine aA (ih xs[i] (by have:=bc (ap hi');omega) (q+jH ((xs.map (fq true)).take i)) (hsz _ (ap hi'))) ?_;simp -implicitDefEqProofs (disch:=omega) only[go_sem]
    (repeat(with_reducible refine And.intro ?_ ?_;focus first|omega|rfl|assumption|exact⟨_,rfl,rfl⟩|(simp;omega)|(simp;done)))
    rw[hs];exact iD 2 (by decide) (i+1) (by omega) rfl rfl rfl rfl (by omega)
   ·have hi':i=(xs.map (fq true)).length:=by rw[ai];omega
    rw[hi',co]
theorem M8(x:ah)(n:Nat)(hsz:x.sz<=4194304):aF prog 94 [x.v] ((fq true x).vl n):=(CU _).1 x (br _) n hsz
end Go.Ab