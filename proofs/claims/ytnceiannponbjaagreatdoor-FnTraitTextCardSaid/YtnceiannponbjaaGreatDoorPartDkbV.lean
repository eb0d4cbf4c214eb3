/-
  SEVERAL TEXTS IN ONE (merged by program): contracts and models, each with its own heading.
-/
import Derived.Test.YtnceiannponbjaaGreatDoorPartDkbO
import Derived.Test.YtnceiannponbjaaGreatDoorPartDkbR
import Derived.Test.YtnceiannponbjaaGreatDoorPartDkbU
set_option linter.unusedSimpArgs false
set_option linter.unusedVariables false
set_option maxRecDepth 4000
namespace Go.Ab
abbrev ay.cv(x:ay):List C:=[.d (.i .i64 x.aL),.d (.s x.bE),.d (.s x.fName),.d (.i .i64 x.fN),.d (.i .i64 x.fType.aL),.d (.s x.fType.fName),.d (.sl (x.fType.fArgs.map ak.enc)),.d (.sl (x.fArgs.map ay.enc)),.d (.sl (x.aK.map aM.enc))]
abbrev ay.cl(x:ay)(n:Nat):List C:=[.d (.i .i64 x.aL),.d (.s x.bE),.d (.s x.fName),.d (.i .i64 x.fN),.d (.i .i64 x.fType.aL),.d (.s x.fType.fName),.d (.ol n (lt x.fType.fArgs (n+1))),
 .d (.ol (n+(gG x.fType.fArgs+1)) (lE x.fArgs (n+(gG x.fType.fArgs+1)+1))),.d (.ol (n+(gG x.fType.fArgs+1)+(mH x.fArgs+1)) (lM x.aK (n+(gG x.fType.fArgs+1)+(mH x.fArgs+1)+1)))]
abbrev ajD:List C:=[.d (.i .i64 0),.d (.s []),.d (.s []),.d (.i .i64 0),.d (.i .i64 0),.d (.s []),.bA [],.bA [],.bA []]
abbrev gX(l:List ah)(i:Nat):ah:=l.getD i eH
theorem Qd(l:List ah):dG l=(gX l 0).sz+dG (l.drop 1):=by
 cases l with
 |nil=>simp[dG,gX,G9]
 |cons x l=>rw[dG,List.drop_succ_cons,List.drop_zero];rfl
theorem S9(l:List ah)(k i:Nat):gX (l.drop k) i=gX l (k+i):=by
 simp[gX,List.getD_eq_getElem?_getD,List.getElem?_drop]
theorem ED(l:List ah):dG l=(gX l 0).sz+(gX l 1).sz+(gX l 2).sz+(gX l 3).sz+(gX l 4).sz+(gX l 5).sz+(gX l 6).sz+dG (l.drop 7):=by
 have h:∀k,dG (l.drop k)=(gX l k).sz+dG (l.drop (k+1)):=fun k=>by
  rw[Qd (l.drop k),S9,Nat.add_zero,List.drop_drop]
 have h0:=h 0;rw[List.drop_zero] at h0;have h1:=h 1;have h2:=h 2;have h3:=h 3;have h4:=h 4;have h5:=h 5;have h6:=h 6
 simp only[Nat.reduceAdd] at *
 omega
theorem acf(l:List ah):dG l=(gX l 0).sz+(gX l 1).sz+(gX l 2).sz+(gX l 3).sz+dG (l.drop 4):=by
 have h:=ED l;have h1:=ED (l.drop 4)
 have e:∀k,dG (l.drop k)=(gX l k).sz+dG (l.drop (k+1)):=fun k=>by
  rw[Qd (l.drop k),S9,Nat.add_zero,List.drop_drop]
 have h4:=e 4;have h5:=e 5;have h6:=e 6
 simp only[Nat.reduceAdd] at *
 omega
theorem Wl(l:List ah)(i:Nat):dB l i=(gX l i).aQ:=rfl
theorem Hg(x:ah):x.aQ.length+(x.aj.length+dG x.aj)=x.sz:=by rw[gY,jC]
theorem af2{α:Type}{x:ah}{dT dF:α}{valid:α->Bool}{sx:α->ah}{head:Prop}(hx:x.aj≠[])(hd:∀a,valid a=true->sx a=x->dT=a/\dF=a)(hh:∀a,sx a=x->head):
 dec (iK x=true/\head/\valid dT=true/\sx dT=x)=(iK x&&dec (uU (valid dF) (sx dF)=x)):=by
 cases hv:iK x with
 |false=>exact aO fun h=>by cases h.1
 |true=>
  rw[Bool.true_and];refine iT ⟨fun⟨_,h2,h3,h4⟩=> ?_,fun h=> ?_⟩
  ·have e:=(hd _ h3 h4).2;rw[e,h3,h4,uU,Bg,if_pos hv]
  ·obtain⟨h1,h2,_⟩:=ab8 h hx;have e:=(hd _ h1 h2).1;rw[e];exact⟨rfl,hh _ h2,h1,h2⟩
def vU(l:List ah)(i:Nat):List (List UInt8):=fC (gX l i).aj
theorem acg{α β:Type}{f:α->β}{g:β->α}{l:List α}(h:∀a∈l,g (f a)=a):(l.map f).map g=l:=by
 rw[List.map_map,show l.map (g∘f)=l.map id from List.map_congr_left (fun c hc=>h c hc),List.map_id]
theorem vg{l:List ah}{i:Nat}(h:i<l.length):gX l i=l[i]:=by
 show l.getD i eH=_;rw[List.getD_eq_getElem?_getD,List.getElem?_eq_getElem h];rfl
def lB(l:List bO)(n:Nat):List (List D):=eP (l.map bO.enc) n
def lPr(l:List dW)(n:Nat):List (List D):=eP (l.map dW.enc) n
theorem RQ{α:Type}{e:α->List D}{l:List α}{i:Nat}(hi:i<l.length)(n:Nat):eP ((l.take i).map e) n++[dS (e l[i]) (n+nZ ((l.take i).map e))]=eP ((l.take (i+1)).map e) n:=by
 rw[List.take_succ_eq_append_getElem hi,List.map_append,oW];rfl
theorem Wm{α:Type}{e:α->List D}{l:List α}{i:Nat}(hi:i<l.length):(l.take i).map e++[e l[i]]=(l.take (i+1)).map e:=by
 rw[List.take_succ_eq_append_getElem hi,List.map_append];rfl
theorem aeC{x:ah}(h:iM x=true){i:Nat}(hi:i<x.aj.length):iM x.aj[i]=true:=sZ (EB h (fun e=>by rw[e] at hi;simp at hi)) (List.getElem_mem hi)
theorem J3(x:ah){i:Nat}(hi:i<x.aj.length):x.aj[i].sz<=x.sz:=by
 have:=jL (List.getElem_mem hi);have:=iy x;omega
abbrev bZ.cl(x:bZ)(n p q r:Nat):List C:=[.d (.s x.fName),.d (.ol n (x.aX.map encS)),.d (.ol (n+1) (lB x.ji (n+1+1))),.d (.ol p (lPr x.bL (p+1))),.d (.i .i64 x.bP.aL),.d (.s x.bP.fName),.d (.ol q (lt x.bP.fArgs (q+1))),
 .d (.i .i64 x.fBody.aL),.d (.s x.fBody.bE),.d (.s x.fBody.fName),.d (.i .i64 x.fBody.fN),.d (.i .i64 x.fBody.fType.aL),.d (.s x.fBody.fType.fName),.d (.ol r (lt x.fBody.fType.fArgs (r+1))),
 .d (.ol (r+(gG x.fBody.fType.fArgs+1)) (lE x.fBody.fArgs (r+(gG x.fBody.fType.fArgs+1)+1))),.d (.ol (r+(gG x.fBody.fType.fArgs+1)+(mH x.fBody.fArgs+1)) (lM x.fBody.aK (r+(gG x.fBody.fType.fArgs+1)+(mH x.fBody.fArgs+1)+1)))]
abbrev bZ.cv(x:bZ):List C:=[.d (.s x.fName),.d (.sl (x.aX.map encS)),.d (.sl (x.ji.map bO.enc)),.d (.sl (x.bL.map dW.enc)),.d (.i .i64 x.bP.aL),.d (.s x.bP.fName),.d (.sl (x.bP.fArgs.map ak.enc)),
 .d (.i .i64 x.fBody.aL),.d (.s x.fBody.bE),.d (.s x.fBody.fName),.d (.i .i64 x.fBody.fN),.d (.i .i64 x.fBody.fType.aL),.d (.s x.fBody.fType.fName),.d (.sl (x.fBody.fType.fArgs.map ak.enc)),.d (.sl (x.fBody.fArgs.map ay.enc)),.d (.sl (x.fBody.aK.map aM.enc))]
abbrev ajF:List C:=[.d (.s []),.bA [],.bA [],.bA [],.d (.i .i64 0),.d (.s []),.bA [],.d (.i .i64 0),.d (.s []),.d (.s []),.d (.i .i64 0),.d (.i .i64 0),.d (.s []),.bA [],.bA [],.bA []]
end Go.Ab