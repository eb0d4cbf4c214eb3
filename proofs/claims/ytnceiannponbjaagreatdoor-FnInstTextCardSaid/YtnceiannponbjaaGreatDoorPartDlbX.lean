/-
  SEVERAL TEXTS IN ONE (merged by program): contracts and models, each with its own heading.
-/
import Derived.Test.YtnceiannponbjaaGreatDoorPartDlbO
import Derived.Test.YtnceiannponbjaaGreatDoorPartDlbR
import Derived.Test.YtnceiannponbjaaGreatDoorPartDlbW
open Go.Proofs Go.Proofs.Tryz
set_option linter.unusedSimpArgs false
set_option linter.unusedVariables false
set_option maxRecDepth 4000
namespace Go.Ab
abbrev aC.cv(x:aC):List C:=[.d (.i .i64 x.aI),.d (.s x.bg),.d (.s x.fName),.d (.i .i64 x.fN),.d (.i .i64 x.fType.aI),.d (.s x.fType.fName),.d (.sl (x.fType.fArgs.map au.enc)),.d (.sl (x.fArgs.map aC.enc)),.d (.sl (x.aO.map aP.enc))]
abbrev aC.cl(x:aC)(n:Nat):List C:=[.d (.i .i64 x.aI),.d (.s x.bg),.d (.s x.fName),.d (.i .i64 x.fN),.d (.i .i64 x.fType.aI),.d (.s x.fType.fName),.d (.ol n (lt x.fType.fArgs (n+1))),
 .d (.ol (n+(gK x.fType.fArgs+1)) (lE x.fArgs (n+(gK x.fType.fArgs+1)+1))),.d (.ol (n+(gK x.fType.fArgs+1)+(mZ x.fArgs+1)) (lM x.aO (n+(gK x.fType.fArgs+1)+(mZ x.fArgs+1)+1)))]
abbrev aku:List C:=[.d (.i .i64 0),.d (.s []),.d (.s []),.d (.i .i64 0),.d (.i .i64 0),.d (.s []),.bE [],.bE [],.bE []]
abbrev gX(l:List ah)(i:Nat):ah:=l.getD i eH
theorem Rq(l:List ah):dJ l=(gX l 0).sz+dJ (l.drop 1):=by
 cases l with
 |nil=>simp[dJ,gX,IX]
 |cons x l=>rw[dJ,List.drop_succ_cons,List.drop_zero];rfl
theorem Uw(l:List ah)(k i:Nat):gX (l.drop k) i=gX l (k+i):=by
 simp[gX,List.getD_eq_getElem?_getD,List.getElem?_drop]
theorem FX(l:List ah):dJ l=(gX l 0).sz+(gX l 1).sz+(gX l 2).sz+(gX l 3).sz+(gX l 4).sz+(gX l 5).sz+(gX l 6).sz+dJ (l.drop 7):=by
 have h:∀k,dJ (l.drop k)=(gX l k).sz+dJ (l.drop (k+1)):=fun k=>by
  rw[Rq (l.drop k),Uw,Nat.add_zero,List.drop_drop]
 have h0:=h 0;rw[List.drop_zero] at h0;have h1:=h 1;have h2:=h 2;have h3:=h 3;have h4:=h 4;have h5:=h 5;have h6:=h 6
 simp only[Nat.reduceAdd] at *
 omega
theorem I4(l:List ah):dJ l=(gX l 0).sz+(gX l 1).sz+(gX l 2).sz+(gX l 3).sz+dJ (l.drop 4):=by
 have h:=FX l;have h1:=FX (l.drop 4)
 have e:∀k,dJ (l.drop k)=(gX l k).sz+dJ (l.drop (k+1)):=fun k=>by
  rw[Rq (l.drop k),Uw,Nat.add_zero,List.drop_drop]
 have h4:=e 4;have h5:=e 5;have h6:=e 6
 simp only[Nat.reduceAdd] at *
 omega
theorem Xy(l:List ah)(i:Nat):dA l i=(gX l i).aU:=rfl
theorem BO(x:ah):x.aU.length+(x.aj.length+dJ x.aj)=x.sz:=by rw[iB,jE]
theorem agZ{α:Type}{x:ah}{dT dF:α}{valid:α->Bool}{sx:α->ah}{head:Prop}(hx:x.aj≠[])(hd:∀a,valid a=true->sx a=x->dT=a/\dF=a)(hh:∀a,sx a=x->head):
 dec (iE x=true/\head/\valid dT=true/\sx dT=x)=(iE x&&dec (wm (valid dF) (sx dF)=x)):=by
 cases hv:iE x with
 |false=>exact bI fun h=>by cases h.1
 |true=>
  rw[Bool.true_and];refine jJ ⟨fun⟨_,h2,h3,h4⟩=> ?_,fun h=> ?_⟩
  ·have e:=(hd _ h3 h4).2;rw[e,h3,h4,wm,Bc,if_pos hv]
  ·obtain⟨h1,h2,_⟩:=adg h hx;have e:=(hd _ h1 h2).1;rw[e];exact⟨rfl,hh _ h2,h1,h2⟩
def ni(b:Bool)(y:ah):aM:=if b=true/\y.aj.length≠2 then⟨[],ig⟩ else⟨dA y.aj 0,eB b (gX y.aj 1)⟩
def GA(l:List ah)(i:Nat):List (List UInt8):=jr (gX l i).aj
theorem aft(b:Bool){c:aM}(h:formed c.fType=true):ni b (oh c)=c:=by
 unfold ni;rw[if_neg (by simp[oh,dP])];show aM.mk c.bg (eB b (dK c.fType))=c;rw[CO b _ h]
theorem Rs{α β:Type}{f:α->β}{g:β->α}{l:List α}(h:∀a∈l,g (f a)=a):(l.map f).map g=l:=by
 rw[List.map_map,show l.map (g∘f)=l.map id from List.map_congr_left (fun c hc=>h c hc),List.map_id]
theorem afu(b:Bool)(y:ah):(ni b y).sz<=y.sz:=by
 have h:=CJ b (gX y.aj 1);have h1:=I4 y.aj;have h2:=BO y;have h3:=BO (gX y.aj 0);unfold ni;split
 ·simp only[aM.sz,aM.aB,bL,bZ,D.sz,au.dz,Aw];simp
 ·simp only[aM.sz,aM.aB,bL,bZ,D.sz,au.dz,Xy];omega
theorem Rt(b:Bool):∀l:List ah,bB ((l.map (ni b)).map aM.enc)<=dJ l
 |[]=>by simp[bB]
 |y::l=>by
  have h1:=afu b y;have h2:=Rt b l;rw[List.map_cons,List.map_cons,bB,dJ];simp only[aM.sz] at h1;omega
theorem qY{l:List ah}{i:Nat}(h:i<l.length):gX l i=l[i]:=by
 show l.getD i eH=_;rw[List.getD_eq_getElem?_getD,List.getElem?_eq_getElem h];rfl
def lB(l:List aM)(n:Nat):List (List D):=eP (l.map aM.enc) n
def adU(l:List aM):Nat:=nG (l.map aM.enc)
def lPr(l:List eG)(n:Nat):List (List D):=eP (l.map eG.enc) n
theorem Ux(x:aM)(n:Nat):dW x.enc n=[.s x.bg,.i .i64 x.fType.aI,.s x.fType.fName,.ol n (lt x.fType.fArgs (n+1))]:=by
 simp only[aM.aB,au.aB,List.cons_append,List.nil_append,dW,lC,pz,Nat.add_zero,lt]
theorem Ib{α:Type}{e:α->List D}{l:List α}{i:Nat}(hi:i<l.length)(n:Nat):eP ((l.take i).map e) n++[dW (e l[i]) (n+nG ((l.take i).map e))]=eP ((l.take (i+1)).map e) n:=by
 rw[List.take_succ_eq_append_getElem hi,List.map_append,p8];rfl
theorem K6{α:Type}{e:α->List D}{l:List α}{i:Nat}(hi:i<l.length):(l.take i).map e++[e l[i]]=(l.take (i+1)).map e:=by
 rw[List.take_succ_eq_append_getElem hi,List.map_append];rfl
theorem Uy{b:Bool}{y:ah}(h:b=false\/y.aj.length=2):(ni b y).bg=dA y.aj 0/\(ni b y).fType=eB b (y.aj.getD 1 eH):=by
 unfold ni;rw[if_neg (by rintro⟨e1,e2⟩;rcases h with e|e;(rw[e] at e1;cases e1);exact e2 e)];exact⟨rfl,rfl⟩
theorem adk{y:ah}(h:y.aj.length≠2):ni true y=⟨[],ig⟩:=if_pos ⟨rfl,h⟩
theorem afv{x:ah}(h:je x=true){i:Nat}(hi:i<x.aj.length):je x.aj[i]=true:=uM (FV h (fun e=>by rw[e] at hi;simp at hi)) (List.getElem_mem hi)
theorem GD(x:ah){i:Nat}(hi:i<x.aj.length):x.aj[i].sz<=x.sz:=by
 have:=jP (List.getElem_mem hi);have:=iL x;omega
abbrev dh.cl(x:dh)(n p q r:Nat):List C:=[.d (.s x.fName),.d (.ol n (x.aK.map encS)),.d (.ol (n+1) (lB x.bR (n+1+1))),.d (.ol p (lPr x.iC (p+1))),.d (.i .i64 x.fQ.aI),.d (.s x.fQ.fName),.d (.ol q (lt x.fQ.fArgs (q+1))),
 .d (.i .i64 x.fBody.aI),.d (.s x.fBody.bg),.d (.s x.fBody.fName),.d (.i .i64 x.fBody.fN),.d (.i .i64 x.fBody.fType.aI),.d (.s x.fBody.fType.fName),.d (.ol r (lt x.fBody.fType.fArgs (r+1))),
 .d (.ol (r+(gK x.fBody.fType.fArgs+1)) (lE x.fBody.fArgs (r+(gK x.fBody.fType.fArgs+1)+1))),.d (.ol (r+(gK x.fBody.fType.fArgs+1)+(mZ x.fBody.fArgs+1)) (lM x.fBody.aO (r+(gK x.fBody.fType.fArgs+1)+(mZ x.fBody.fArgs+1)+1)))]
abbrev dh.cv(x:dh):List C:=[.d (.s x.fName),.d (.sl (x.aK.map encS)),.d (.sl (x.bR.map aM.enc)),.d (.sl (x.iC.map eG.enc)),.d (.i .i64 x.fQ.aI),.d (.s x.fQ.fName),.d (.sl (x.fQ.fArgs.map au.enc)),
 .d (.i .i64 x.fBody.aI),.d (.s x.fBody.bg),.d (.s x.fBody.fName),.d (.i .i64 x.fBody.fN),.d (.i .i64 x.fBody.fType.aI),.d (.s x.fBody.fType.fName),.d (.sl (x.fBody.fType.fArgs.map au.enc)),.d (.sl (x.fBody.fArgs.map aC.enc)),.d (.sl (x.fBody.aO.map aP.enc))]
abbrev akw:List C:=[.d (.s []),.bE [],.bE [],.bE [],.d (.i .i64 0),.d (.s []),.bE [],.d (.i .i64 0),.d (.s []),.d (.s []),.d (.i .i64 0),.d (.i .i64 0),.d (.s []),.bE [],.bE [],.bE []]
theorem N8(x:ah)(hsz:x.sz<=4194304):aJ prog 65 [x.v] (.c (.d (.sl ((x.aj.map (ni false)).map aM.enc)))):=fun S=>by
 have h1:=iL x
 have hall:∀t∈x.aj,t.sz<=4194304:=fun t ht=>by have:=jP ht;omega
 have zm:=fun(i:Nat) (hi:i<x.aj.length)=>K6 (e:=aM.enc) (l:=x.aj.map (ni false)) (i:=i) (by rw[List.length_map];exact hi);refine zcx [.tmp 2] func65 ntmps65 ?_;simp -implicitDefEqProofs (disch:=omega) only[go_sem]
 (repeat(with_reducible refine And.intro ?_ ?_;focus first|omega|rfl|assumption|exact⟨_,rfl,rfl⟩|(simp;omega)|(simp;done)))
 refine yg 3 4 [] rfl (by simp) ?_
 refine bF (ι:=Nat) zmx rfl [1,3,4] (fun i=>[.c (.ptr (0,0) 0),.c (.bK (0,1) (((x.aj.map (ni false)).take i).map aM.enc)),.c (.d (.i .i64 i))]) (fun i=>[.box [.d (.s x.aU),.d (.sl (x.aj.map ah.enc))],.tok 4 (((x.aj.map (ni false)).take i).map aM.enc)]::S)
  (fun i=>i<=x.aj.length) (fun i=>x.aj.length-i) 0 rfl rfl (Nat.zero_le _) ?_
 intro i hi
 have hl:(((x.aj.map (ni false)).take i).map aM.enc).length<=i:=by rw[List.length_map];exact List.length_take_le _ _
 simp -implicitDefEqProofs (disch:=omega) only[go_sem]
 with_reducible refine aD (fun hb=> ?_) (fun hb=> ?_)<;>have h:=hb<;>(try simp only[wf_preprocess] at h)<;>simp -implicitDefEqProofs (disch:=omega) only[go_sem,hb]<;>(repeat(with_reducible refine And.intro ?_ ?_;focus first|omega|rfl|assumption|exact⟨_,rfl,rfl⟩|(simp;omega)|(simp;done)))
 ·have hi':i<x.aj.length:=by omega
  have hz:=hall _ (List.getElem_mem hi');have hs:=zm i hi';have hb:=Uy (b:=false) (y:=x.aj[i]) (.inl rfl);rw[List.getElem_map] at hs;simp only[aM.aB,au.aB,List.cons_append,List.nil_append,hb.1,hb.2] at hs
  (repeat(with_reducible refine And.intro ?_ ?_;focus first|omega|rfl|assumption|exact⟨_,rfl,rfl⟩|(simp;omega)|(simp;done)))
  refine aA (mQ x.aj[i] 0 hz (by omega)) ?_;simp -implicitDefEqProofs (disch:=omega) only[go_sem]
  (repeat(with_reducible refine And.intro ?_ ?_;focus first|omega|rfl|assumption|exact⟨_,rfl,rfl⟩|(simp;omega)|(simp;done)))
  refine aA (mQ x.aj[i] 1 hz (by omega)) ?_;simp -implicitDefEqProofs (disch:=omega) only[go_sem];refine aA (wG (x.aj[i].aj.getD 1 eH) (Ay _ 1 hz)) ?_;simp -implicitDefEqProofs (disch:=omega) only[go_sem]
  (repeat(with_reducible refine And.intro ?_ ?_;focus first|omega|rfl|assumption|exact⟨_,rfl,rfl⟩|(simp;omega)|(simp;done)))
  show _;rw[show(x.aj[i].aj.getD 0 eH).aU=dA x.aj[i].aj 0 from rfl,hs];exact dG (i+1) (by omega) rfl rfl (by omega)
 ·have hi':i=(x.aj.map (ni false)).length:=by rw[List.length_map];omega
  rw[hi',List.take_length]
theorem N9(x:ah)(n q:Nat)(hsz:x.sz<=4194304):aJ prog 58 [x.v] (.c (.d (.ol n (lB (x.aj.map (ni true)) q)))):=aJ.of_le fun S=>by
 have h1:=iL x
 have hall:∀t∈x.aj,t.sz<=4194304:=fun t ht=>by have:=jP ht;omega
 obtain⟨L,hL⟩:∃L:Nat->Nat,L=fun i=>q+nG (((x.aj.map (ni true)).take i).map aM.enc):=⟨_,rfl⟩;obtain⟨T,hT⟩:∃T:Nat->List (List D),T=fun i=>eP (((x.aj.map (ni true)).take i).map aM.enc) q:=⟨_,rfl⟩
 have hT0:T 0=[]:=by rw[hT];rfl
 have lF:∀i,(T i).length<=i:=fun i=>by rw[hT];simp only[jU,List.length_map];exact List.length_take_le _ _
 have hTr:∀i,∀r∈T i,r.length=4:=fun i=>by
  rw[hT]
  exact zl fun r hr=>by
   obtain⟨z,_,rfl⟩:=List.mem_map.1 hr;exact z.bN
 have hTs:∀i (hi:i<x.aj.length),T i++[dW (ni true x.aj[i]).enc (L i)]=T (i+1):=fun i hi=>by
  have:=Ib (e:=aM.enc) (l:=x.aj.map (ni true)) (i:=i) (by rw[List.length_map];exact hi) q;rw[List.getElem_map] at this;rw[hT,hL];exact this
 have hTe:T x.aj.length=lB (x.aj.map (ni true)) q:=by
  rw[hT];simp only
  rw[List.take_of_length_le (by simp)];rfl
 clear hT hL;refine lN (n) (rs:=[.tmp 2]) zmx func58 ntmps58 rfl rfl rfl rfl rfl ?_;simp -implicitDefEqProofs (disch:=omega) only[go_sem]
 (repeat(with_reducible refine And.intro ?_ ?_;focus first|omega|rfl|assumption|exact⟨_,rfl,rfl⟩|(simp;omega)|(simp;done)))
 refine nQ n 3 4 [] (.inl rfl) (by simp) ?_
 refine bF (ι:=Nat×List (List D)) zmx rfl [3,9,10,11] (fun y=>[.c (.bK (0,2) y.2),.c (.d (.sl (x.aj.map ah.enc))),.c (.d (.i .i64 x.aj.length)),.c (.d (.i .i64 y.1))])
  (fun y=>[.seed n,.box [.d (.s x.aU),.d (.sl (x.aj.map ah.enc))],.dY n 4 y.2]::S)
  (fun y=>y.1<=x.aj.length/\gV y.2 (T y.1)) (fun y=>x.aj.length-y.1) (0,[]) rfl rfl ⟨Nat.zero_le _,by rw[hT0];exact .nil⟩ ?_
 rintro⟨i,U⟩ ⟨p1,p2⟩;simp only at p1 p2;have hU1:=p2.length;have hU2:=lF i;have hU3:=p2.rows (hTr i);simp -implicitDefEqProofs (disch:=omega) only[go_sem]
 with_reducible refine aD (fun hb=> ?_) (fun hb=> ?_)<;>have h:=hb<;>(try simp only[wf_preprocess] at h)<;>simp -implicitDefEqProofs (disch:=omega) only[go_sem,hb]<;>(repeat(with_reducible refine And.intro ?_ ?_;focus first|omega|rfl|assumption|exact⟨_,rfl,rfl⟩|(simp;omega)|(simp;done)))
 ·have hi':i<x.aj.length:=by omega
  have hz:=hall _ (List.getElem_mem hi');have hs:=hTs i hi';have hz1:=iL x.aj[i]
  (repeat(with_reducible refine And.intro ?_ ?_;focus first|omega|rfl|assumption|exact⟨_,rfl,rfl⟩|(simp;omega)|(simp;done)))
  with_reducible refine aD (fun hb=> ?_) (fun hb=> ?_)<;>have h:=hb<;>(try simp only[wf_preprocess] at h)<;>simp -implicitDefEqProofs (disch:=omega) only[go_sem,hb]<;>(repeat(with_reducible refine And.intro ?_ ?_;focus first|omega|rfl|assumption|exact⟨_,rfl,rfl⟩|(simp;omega)|(simp;done)))
  ·have hl2:x.aj[i].aj.length=2:=by omega
   have hb:=Uy (b:=true) (y:=x.aj[i]) (.inr hl2);have g1:x.aj[i].aj.getD 1 eH=x.aj[i].aj[1]:=qY (by omega);rw[Ux,hb.1,hb.2,mX (by omega:0<x.aj[i].aj.length),g1] at hs;have hz2:=GD x.aj[i] (i:=1) (by omega)
   (repeat(with_reducible refine And.intro ?_ ?_;focus first|omega|rfl|assumption|exact⟨_,rfl,rfl⟩|(simp;omega)|(simp;done)))
   refine aA (uz x.aj[i].aj[1] (L i) (by omega)) ?_;simp -implicitDefEqProofs (disch:=omega) only[go_sem]
   (repeat(with_reducible refine And.intro ?_ ?_;focus first|omega|rfl|assumption|exact⟨_,rfl,rfl⟩|(simp;omega)|(simp;done)))
   refine dO 3 (by decide) (i+1,_) (by simp only;omega) rfl rfl rfl rfl ⟨by simp only;omega,?_⟩
   simp only
   rw[<-hs];exact p2.snoc (.refl _)
  ·have hl2:x.aj[i].aj.length≠2:=by omega
   rw[Ux,adk hl2] at hs;refine dO 3 (by decide) (i+1,_) (by simp only;omega) rfl rfl rfl rfl ⟨by simp only;omega,?_⟩
   simp only
   rw[<-hs];exact p2.snoc (.cons (.refl _) (.cons (.refl _) (.cons (.refl _) (.cons (Cz _) .nil))))
 ·have hi':i=x.aj.length:=by omega
  subst hi';rw[hTe] at p2;exact acQ p2
end Go.Ab