/-
  SEVERAL TEXTS IN ONE (merged by program): contracts and models, each with its own heading.
-/
import Derived.Test.YtfhpfkaeldgcmaaGreatPartHdbL
import Derived.Test.YtfhpfkaeldgcmaaGreatPartHdbS
import Derived.Test.YtfhpfkaeldgcmaaGreatPartHdbX
import Derived.Shelf.Strconv.Atoi
import Derived.Shelf.Strconv.AtoiErr
import Derived.Lib.AppendIntMem
import Derived.Lib.AtoiBound
open Go.Proofs Go.Proofs.Tryz
set_option linter.unusedSimpArgs false
set_option linter.unusedVariables false
set_option maxRecDepth 4000
namespace Go.Ab
abbrev aC.cv(x:aC):List C:=[.d (.i .i64 x.aR),.d (.s x.bU),.d (.s x.fName),.d (.i .i64 x.fN),.d (.i .i64 x.fType.aR),.d (.s x.fType.fName),.d (.sl (x.fType.fArgs.map ay.enc)),.d (.sl (x.fArgs.map aC.enc)),.d (.sl (x.bE.map aZ.enc))]
abbrev aC.cl(x:aC)(n:Nat):List C:=[.d (.i .i64 x.aR),.d (.s x.bU),.d (.s x.fName),.d (.i .i64 x.fN),.d (.i .i64 x.fType.aR),.d (.s x.fType.fName),.d (.ol n (lt x.fType.fArgs (n+1))),
 .d (.ol (n+(qj x.fType.fArgs+1)) (lE x.fArgs (n+(qj x.fType.fArgs+1)+1))),.d (.ol (n+(qj x.fType.fArgs+1)+(BN x.fArgs+1)) (lM x.bE (n+(qj x.fType.fArgs+1)+(BN x.fArgs+1)+1)))]
abbrev amw:List C:=[.d (.i .i64 0),.d (.s []),.d (.s []),.d (.i .i64 0),.d (.i .i64 0),.d (.s []),.bI [],.bI [],.bI []]
abbrev gX(l:List au)(i:Nat):au:=l.getD i dw
theorem Rt(l:List au):dI l=(gX l 0).sz+dI (l.drop 1):=by
 cases l with
 |nil=>simp[dI,gX,En]
 |cons x l=>rw[dI,List.drop_succ_cons,List.drop_zero];rfl
theorem Uy(l:List au)(k i:Nat):gX (l.drop k) i=gX l (k+i):=by
 simp[gX,List.getD_eq_getElem?_getD,List.getElem?_drop]
theorem yT(l:List au):dI l=(gX l 0).sz+(gX l 1).sz+(gX l 2).sz+(gX l 3).sz+(gX l 4).sz+(gX l 5).sz+(gX l 6).sz+dI (l.drop 7):=by
 have h:∀k,dI (l.drop k)=(gX l k).sz+dI (l.drop (k+1)):=fun k=>by
  rw[Rt (l.drop k),Uy,Nat.add_zero,List.drop_drop]
 have h0:=h 0;rw[List.drop_zero] at h0;have h1:=h 1;have h2:=h 2;have h3:=h 3;have h4:=h 4;have h5:=h 5;have h6:=h 6
 simp only[Nat.reduceAdd] at *
 omega
theorem A8(l:List au):dI l=(gX l 0).sz+(gX l 1).sz+(gX l 2).sz+(gX l 3).sz+dI (l.drop 4):=by
 have h:=yT l;have h1:=yT (l.drop 4)
 have e:∀k,dI (l.drop k)=(gX l k).sz+dI (l.drop (k+1)):=fun k=>by
  rw[Rt (l.drop k),Uy,Nat.add_zero,List.drop_drop]
 have h4:=e 4;have h5:=e 5;have h6:=e 6
 simp only[Nat.reduceAdd] at *
 omega
theorem BO(l:List au)(i:Nat):dL l i=(gX l i).bC:=rfl
theorem mV(x:au):x.bC.length+(x.aA.length+dI x.aA)=x.sz:=by rw[iT,jV]
theorem Ru{α:Type}{x:au}{dT dF:α}{valid:α->Bool}{sx:α->au}{head:Prop}(hx:x.aA≠[])(hd:∀a,valid a=true->sx a=x->dT=a/\dF=a)(hh:∀a,sx a=x->head):
 dec (iQ x=true/\head/\valid dT=true/\sx dT=x)=(iQ x&&dec (tJ (valid dF) (sx dF)=x)):=by
 cases hv:iQ x with
 |false=>exact bK fun h=>by cases h.1
 |true=>
  rw[Bool.true_and];refine kP ⟨fun⟨_,h2,h3,h4⟩=> ?_,fun h=> ?_⟩
  ·have e:=(hd _ h3 h4).2;rw[e,h3,h4,tJ,AA,if_pos hv]
  ·obtain⟨h1,h2,_⟩:=Rl h hx;have e:=(hd _ h1 h2).1;rw[e];exact⟨rfl,hh _ h2,h1,h2⟩
def qE(b:Bool)(y:au):aM:=if b=true/\y.aA.length≠2 then⟨[],iL⟩ else⟨dL y.aA 0,eP b (gX y.aA 1)⟩
def qF(b:Bool)(y:au):dD:=if b=true/\y.aA.length≠2 then⟨[],iL⟩ else⟨dL y.aA 0,eP b (gX y.aA 1)⟩
def l7(l:List au)(i:Nat):List (List UInt8):=gq (gX l i).aA
def y9(b:Bool)(x:au):bA:=
 ⟨dL x.aA 1,l7 x.aA 2,(gX x.aA 3).aA.map (qE b),(gX x.aA 4).aA.map (qF b),eP b (gX x.aA 5),fA b (gX x.aA 6)⟩
theorem Uz(b:Bool){c:aM}(h:formed c.fType=true):qE b (wI c)=c:=by
 unfold qE;rw[if_neg (by simp[wI,gZ])];show aM.mk c.bU (eP b (dR c.fType))=c;rw[uw b _ h]
theorem aaq(b:Bool){c:dD}(h:formed c.fType=true):qF b (uR c)=c:=by
 unfold qF;rw[if_neg (by simp[uR,gZ])];show dD.mk c.fName (eP b (dR c.fType))=c;rw[uw b _ h]
theorem A9{α β:Type}{f:α->β}{g:β->α}{l:List α}(h:∀a∈l,g (f a)=a):(l.map f).map g=l:=by
 rw[List.map_map,show l.map (g∘f)=l.map id from List.map_congr_left (fun c hc=>h c hc),List.map_id]
theorem Rv{f:bA}(h:lY f=true):∀v∈f.aO,v≠[]:=by
 unfold lY at h;simp only[Bool.and_eq_true] at h;exact xM h.2.2.1
theorem ME(b:Bool){f:bA}(h:lY f=true):y9 b (NA f)=f:=by
 obtain⟨h1,h2,h3,h4⟩:=EM h;show bA.mk f.fName (gq (dh f.aO)) ((f.dO.map wI).map (qE b)) ((f.bS.map uR).map (qF b)) (eP b (dR f.dB)) (fA b (fO f.fBody))=f;rw[mQ (Rv h),A9 fun c hc=>Uz b (h1 c hc),A9 fun c hc=>aaq b (h2 c hc),uw b _ h3,Dk b _ h4]
noncomputable def okF(x:au):Bool:=dec (iQ x=true/\(7<=x.aA.length/\dL x.aA 0=F6)/\lY (y9 true x)=true/\NA (y9 true x)=x)
theorem adM{x:au}(hx:x.aA≠[]):okF x=(iQ x&&dec (Q6 (y9 false x)=x)):=
 Ru hx (fun a h1 h2=>by rw[<-h2];exact⟨ME true h1,ME false h1⟩) fun a h=>by rw[<-h];exact⟨Nat.le_refl _,rfl⟩
theorem adN{x:au}(h:okF x=true):y9 false x=y9 true x:=by
 have h1:=gL h
 conv=>lhs;rw[<-h1.2.2.2]
 exact ME false h1.2.2.1
def La:bA:=⟨[],[],[],[],iL,mU⟩
noncomputable def Gh(x:au):bA:=if okF x=true then y9 true x else La
theorem agk(b:Bool)(y:au):(qE b y).sz<=y.sz:=by
 have h:=vO b (gX y.aA 1);have h1:=A8 y.aA;have h2:=mV y;have h3:=mV (gX y.aA 0);unfold qE;split
 ·simp only[aM.sz,aM.aj,bF,bL,D.sz,ay.cK,yR];simp
 ·simp only[aM.sz,aM.aj,bF,bL,D.sz,ay.cK,BO];omega
theorem aar(b:Bool)(y:au):(qF b y).sz<=y.sz:=by
 have h:=vO b (gX y.aA 1);have h1:=A8 y.aA;have h2:=mV y;have h3:=mV (gX y.aA 0);unfold qF;split
 ·simp only[dD.sz,dD.aj,bF,bL,D.sz,ay.cK,yR];simp
 ·simp only[dD.sz,dD.aj,bF,bL,D.sz,ay.cK,BO];omega
theorem Jp(b:Bool):∀l:List au,aI ((l.map (qE b)).map aM.enc)<=dI l
 |[]=>by simp[aI]
 |y::l=>by
  have h1:=agk b y;have h2:=Jp b l;rw[List.map_cons,List.map_cons,aI,dI];simp only[aM.sz] at h1;omega
theorem Lb(b:Bool):∀l:List au,aI ((l.map (qF b)).map dD.enc)<=dI l
 |[]=>by simp[aI]
 |y::l=>by
  have h1:=aar b y;have h2:=Lb b l;rw[List.map_cons,List.map_cons,aI,dI];simp only[dD.sz] at h1;omega
theorem UA(b:Bool)(x:au):(y9 b x).sz<=x.sz:=by
 have h1:=yT x.aA;have h2:=mV x;have h3:=mV (gX x.aA 1);have h4:=nS (gX x.aA 2).aA;have h4':=mV (gX x.aA 2);have h5:=Jp b (gX x.aA 3).aA;have h5':=mV (gX x.aA 3);have h6:=Lb b (gX x.aA 4).aA;have h6':=mV (gX x.aA 4);have h7:=vO b (gX x.aA 5);have h8:=zU b (gX x.aA 6);simp only[bA.sz,bA.aj,bF,bL,D.sz,ay.cK,aC.cK,y9,List.length_map,l7,dZ,BO];omega
theorem aas{l:List au}{i:Nat}(h:i<l.length):gX l i=l[i]:=by
 show l.getD i dw=_;rw[List.getD_eq_getElem?_getD,List.getElem?_eq_getElem h];rfl
def lB(l:List aM)(n:Nat):List (List D):=eu (l.map aM.enc) n
def lPr(l:List dD)(n:Nat):List (List D):=eu (l.map dD.enc) n
theorem zK{α:Type}{e:α->List D}{l:List α}{i:Nat}(hi:i<l.length):(l.take i).map e++[e l[i]]=(l.take (i+1)).map e:=by
 rw[List.take_succ_eq_append_getElem hi,List.map_append];rfl
theorem agl{b:Bool}{y:au}(h:b=false\/y.aA.length=2):(qE b y).bU=dL y.aA 0/\(qE b y).fType=eP b (y.aA.getD 1 dw):=by
 unfold qE;rw[if_neg (by rintro⟨e1,e2⟩;rcases h with e|e;(rw[e] at e1;cases e1);exact e2 e)];exact⟨rfl,rfl⟩
theorem aat{b:Bool}{y:au}(h:b=false\/y.aA.length=2):(qF b y).fName=dL y.aA 0/\(qF b y).fType=eP b (y.aA.getD 1 dw):=by
 unfold qF;rw[if_neg (by rintro⟨e1,e2⟩;rcases h with e|e;(rw[e] at e1;cases e1);exact e2 e)];exact⟨rfl,rfl⟩
theorem aj2(x:au){i:Nat}(hi:i<x.aA.length):x.aA[i].sz<=x.sz:=by
 have:=kR (List.getElem_mem hi);have:=gN x;omega
abbrev bA.cl(x:bA)(n p q r:Nat):List C:=[.d (.s x.fName),.d (.ol n (x.aO.map encS)),.d (.ol (n+1) (lB x.dO (n+1+1))),.d (.ol p (lPr x.bS (p+1))),.d (.i .i64 x.dB.aR),.d (.s x.dB.fName),.d (.ol q (lt x.dB.fArgs (q+1))),
 .d (.i .i64 x.fBody.aR),.d (.s x.fBody.bU),.d (.s x.fBody.fName),.d (.i .i64 x.fBody.fN),.d (.i .i64 x.fBody.fType.aR),.d (.s x.fBody.fType.fName),.d (.ol r (lt x.fBody.fType.fArgs (r+1))),
 .d (.ol (r+(qj x.fBody.fType.fArgs+1)) (lE x.fBody.fArgs (r+(qj x.fBody.fType.fArgs+1)+1))),.d (.ol (r+(qj x.fBody.fType.fArgs+1)+(BN x.fBody.fArgs+1)) (lM x.fBody.bE (r+(qj x.fBody.fType.fArgs+1)+(BN x.fBody.fArgs+1)+1)))]
abbrev bA.cv(x:bA):List C:=[.d (.s x.fName),.d (.sl (x.aO.map encS)),.d (.sl (x.dO.map aM.enc)),.d (.sl (x.bS.map dD.enc)),.d (.i .i64 x.dB.aR),.d (.s x.dB.fName),.d (.sl (x.dB.fArgs.map ay.enc)),
 .d (.i .i64 x.fBody.aR),.d (.s x.fBody.bU),.d (.s x.fBody.fName),.d (.i .i64 x.fBody.fN),.d (.i .i64 x.fBody.fType.aR),.d (.s x.fBody.fType.fName),.d (.sl (x.fBody.fType.fArgs.map ay.enc)),.d (.sl (x.fBody.fArgs.map aC.enc)),.d (.sl (x.fBody.bE.map aZ.enc))]
theorem ah4{x:au}(h:okF x=false):Gh x=La:=if_neg (by rw[h];decide)
theorem agm{x:au}(h:okF x=true):Gh x=y9 true x:=if_pos h
abbrev Rw:List C:=[.d (.s []),.bI [],.bI [],.bI [],.d (.i .i64 0),.d (.s []),.bI [],.d (.i .i64 0),.d (.s []),.d (.s []),.d (.i .i64 0),.d (.i .i64 0),.d (.s []),.bI [],.bI [],.bI []]
theorem alP(e:bA)(h:e=La)(ok:Bool):Less (.eH [(true,Rw),(false,[.d (.b ok)])]) (.eH [(true,e.cv),(false,[.d (.b ok)])]):=by
 rw[h];exact(jR.cons (.cons (.refl _) (.cons (eG _) (.cons (eG _) (.cons (eG _) (.cons (.refl _) (.cons (.refl _) (.cons (eG _) (.cons (.refl _) (.cons (.refl _) (.cons (.refl _) (.cons (.refl _) (.cons (.refl _) (.cons (.refl _) (.cons (eG _) (.cons (eG _) (.cons (eG _) .nil)))))))))))))))) (.refl _)).less
theorem ES(x:au)(hsz:x.sz<=4194304):bq prog 256 [x.v] (.c (.d (.sl ((x.aA.map (qE false)).map aM.enc)))):=fun S=>by
 have h1:=gN x
 have hall:∀t∈x.aA,t.sz<=4194304:=fun t ht=>by have:=kR ht;omega
 have XC:=fun(i:Nat) (hi:i<x.aA.length)=>zK (e:=aM.enc) (l:=x.aA.map (qE false)) (i:=i) (by rw[List.length_map];exact hi);refine zcx [.tmp 2] func256 ntmps256 ?_;simp -implicitDefEqProofs (disch:=omega) only[go_sem]
 (repeat(with_reducible refine And.intro ?_ ?_;focus first|omega|rfl|assumption|exact⟨_,rfl,rfl⟩|(simp;omega)|(simp;done)))
 refine lq 3 4 [] rfl (by simp) ?_
 refine bT (ι:=Nat) zmx rfl [1,3,4] (fun i=>[.c (.ptr (0,0) 0),.c (.bX (0,1) (((x.aA.map (qE false)).take i).map aM.enc)),.c (.d (.i .i64 i))]) (fun i=>[.box [.d (.s x.bC),.d (.sl (x.aA.map au.enc))],.tok 4 (((x.aA.map (qE false)).take i).map aM.enc)]::S)
  (fun i=>i<=x.aA.length) (fun i=>x.aA.length-i) 0 rfl rfl (Nat.zero_le _) ?_
 intro i hi
 have hl:(((x.aA.map (qE false)).take i).map aM.enc).length<=i:=by rw[List.length_map];exact List.length_take_le _ _
 simp -implicitDefEqProofs (disch:=omega) only[go_sem]
 with_reducible refine aD (fun hb=> ?_) (fun hb=> ?_)<;>have h:=hb<;>(try simp only[wf_preprocess] at h)<;>simp -implicitDefEqProofs (disch:=omega) only[go_sem,hb]<;>(repeat(with_reducible refine And.intro ?_ ?_;focus first|omega|rfl|assumption|exact⟨_,rfl,rfl⟩|(simp;omega)|(simp;done)))
 ·have hi':i<x.aA.length:=by omega
  have hz:=hall _ (List.getElem_mem hi');have hs:=XC i hi';have hb:=agl (b:=false) (y:=x.aA[i]) (.inl rfl);rw[List.getElem_map] at hs;simp only[aM.aj,ay.aj,List.cons_append,List.nil_append,hb.1,hb.2] at hs
  (repeat(with_reducible refine And.intro ?_ ?_;focus first|omega|rfl|assumption|exact⟨_,rfl,rfl⟩|(simp;omega)|(simp;done)))
  refine aB (eT x.aA[i] 0 hz (by omega)) ?_;simp -implicitDefEqProofs (disch:=omega) only[go_sem]
  (repeat(with_reducible refine And.intro ?_ ?_;focus first|omega|rfl|assumption|exact⟨_,rfl,rfl⟩|(simp;omega)|(simp;done)))
  refine aB (eT x.aA[i] 1 hz (by omega)) ?_;simp -implicitDefEqProofs (disch:=omega) only[go_sem];refine aB (mR (x.aA[i].aA.getD 1 dw) (tZ _ 1 hz)) ?_;simp -implicitDefEqProofs (disch:=omega) only[go_sem]
  (repeat(with_reducible refine And.intro ?_ ?_;focus first|omega|rfl|assumption|exact⟨_,rfl,rfl⟩|(simp;omega)|(simp;done)))
  show _;rw[show(x.aA[i].aA.getD 0 dw).bC=dL x.aA[i].aA 0 from rfl,hs];exact dG (i+1) (by omega) rfl rfl (by omega)
 ·have hi':i=(x.aA.map (qE false)).length:=by rw[List.length_map];omega
  rw[hi',List.take_length]
theorem Rx(x:au)(hsz:x.sz<=1048576):bq prog 243 [x.v] (.eH [(true,(Gh x).cv),(false,[.d (.b (okF x))])]):=bq.of_le fun S=>by
 have h1:=gN x;have hds:=UA false x;have hos:=afV (f:=y9 false x) (by omega);have hgs:=fun i=>tZ x i (m:=4194304) (by omega);obtain⟨l,hl⟩:∃l,l=(x.aA.getD 4 dw).aA:=⟨_,rfl⟩;have hg4:=gN (x.aA.getD 4 dw)
 have hll:l.length<=4194304:=by have:=hgs 4;rw[hl];omega
 have hlm:∀y∈l,y.sz<=4194304:=fun y hy=>by
  have:=hgs 4;have:=kR (hl▸hy);omega
 obtain⟨F,hF⟩:∃F,F=y9 false x:=⟨_,rfl⟩
 have f1:F.fName=(x.aA.getD 1 dw).bC:=by rw[hF];rfl
 have f2:F.aO=gq (x.aA.getD 2 dw).aA:=by rw[hF];rfl
 have f3:F.dO=(x.aA.getD 3 dw).aA.map (qE false):=by rw[hF];rfl
 have f5:F.dB=eP false (x.aA.getD 5 dw):=by rw[hF];rfl
 have f6:F.fBody=fA false (x.aA.getD 6 dw):=by rw[hF];rfl
 obtain⟨T,hT⟩:∃T:Nat->List (List D),T=fun i=>((l.map (qF false)).take i).map dD.enc:=⟨_,rfl⟩
 have hT0:T 0=[]:=by rw[hT];rfl
 have iE:∀i,(T i).length<=i:=fun i=>by rw[hT];simp only[List.length_map];exact List.length_take_le _ _
 have hTs:∀i (hi:i<l.length),T i++[(qF false l[i]).enc]=T (i+1):=fun i hi=>by
  have:=zK (e:=dD.enc) (l:=l.map (qF false)) (i:=i) (by rw[List.length_map];exact hi);rw[List.getElem_map] at this;rw[hT];exact this
 have hTe:T l.length=F.bS.map dD.enc:=by
  rw[hT];simp only
  rw[List.take_of_length_le (by simp),hF,hl];rfl
 clear hT
 have jE:okF x=false->Less (.eH [(true,Rw),(false,[.d (.b false)])]) (.eH [(true,(Gh x).cv),(false,[.d (.b (okF x))])]):=fun e=>by
  rw[e];exact alP _ (ah4 e) false
 have c5:=mR (x.aA.getD 5 dw) (hgs 5);have c6:=Cr (x.aA.getD 6 dw) (hgs 6);have c2:=ow _ (hgs 2);have c3:=ES _ (hgs 3);rw[<-f2] at c2;rw[<-f3] at c3;rw[<-f5] at c5;rw[<-f6] at c6;refine zcx [.cell 2 117,.tmp 3] func243 ntmps243 ?_;simp -implicitDefEqProofs (disch:=omega) only[go_sem];refine aB (eT x 1 (by omega) (by omega)) ?_;simp -implicitDefEqProofs (disch:=omega) only[go_sem];refine aB (eT x 2 (by omega) (by omega)) ?_;simp -implicitDefEqProofs (disch:=omega) only[go_sem];refine aB c2 ?_;simp -implicitDefEqProofs (disch:=omega) only[go_sem];refine aB (eT x 3 (by omega) (by omega)) ?_;simp -implicitDefEqProofs (disch:=omega) only[go_sem];refine aB c3 ?_;simp -implicitDefEqProofs (disch:=omega) only[go_sem];refine aB (eT x 5 (by omega) (by omega)) ?_;simp -implicitDefEqProofs (disch:=omega) only[go_sem];refine aB c5 ?_;simp -implicitDefEqProofs (disch:=omega) only[go_sem];refine aB (eT x 6 (by omega) (by omega)) ?_;simp -implicitDefEqProofs (disch:=omega) only[go_sem];refine aB c6 ?_;simp -implicitDefEqProofs (disch:=omega) only[go_sem]
 (repeat(with_reducible refine And.intro ?_ ?_;focus first|omega|rfl|assumption|exact⟨_,rfl,rfl⟩|(simp;omega)|(simp;done)))
 refine aB (eT x 4 (by omega) (by omega)) ?_;simp -implicitDefEqProofs (disch:=omega) only[go_sem];rw[<-hl,<-f1];refine jr 2 3 4 _ rfl rfl ?_
 refine bT (ι:=Nat) zmx rfl [1,2,4,5,6] (fun i=>[.c (.ptr (0,0) 0),.c (.ptr (0,1) 0),.c (.ptr (0,2) 0),.c (.ptr (0,3) 0),.c (.d (.i .i64 i))])
  (fun i=>[.box [.d (.s x.bC),.d (.sl (x.aA.map au.enc))],.box Rw,.box [.d (.s F.fName),.d (.sl (F.aO.map encS)),.d (.sl (F.dO.map aM.enc)),.bX (0,4) (T i),.d (.i .i64 F.dB.aR),.d (.s F.dB.fName),.d (.sl (F.dB.fArgs.map ay.enc)),
    .d (.i .i64 F.fBody.aR),.d (.s F.fBody.bU),.d (.s F.fBody.fName),.d (.i .i64 F.fBody.fN),.d (.i .i64 F.fBody.fType.aR),.d (.s F.fBody.fType.fName),.d (.sl (F.fBody.fType.fArgs.map ay.enc)),.d (.sl (F.fBody.fArgs.map aC.enc)),.d (.sl (F.fBody.bE.map aZ.enc))],
    .box [.d (.s (x.aA.getD 4 dw).bC),.d (.sl (l.map au.enc))],.tok 4 (T i)]::S)
  (fun i=>i<=l.length) (fun i=>l.length-i) 0 rfl (by rw[hT0];rfl) (Nat.zero_le _) ?_
 intro i hi;have hl':=iE i;simp -implicitDefEqProofs (disch:=omega) only[go_sem]
 with_reducible refine aD (fun hb=> ?_) (fun hb=> ?_)<;>have h:=hb<;>(try simp only[wf_preprocess] at h)<;>simp -implicitDefEqProofs (disch:=omega) only[go_sem,hb]<;>(repeat(with_reducible refine And.intro ?_ ?_;focus first|omega|rfl|assumption|exact⟨_,rfl,rfl⟩|(simp;omega)|(simp;done)))
 ·have hi':i<l.length:=by omega
  have hz:=hlm _ (List.getElem_mem hi');have hs:=hTs i hi';have hb:=aat (b:=false) (y:=l[i]) (.inl rfl);simp only[dD.aj,ay.aj,List.cons_append,List.nil_append,hb.1,hb.2] at hs
  (repeat(with_reducible refine And.intro ?_ ?_;focus first|omega|rfl|assumption|exact⟨_,rfl,rfl⟩|(simp;omega)|(simp;done)))
  refine aB (eT l[i] 0 hz (by omega)) ?_;simp -implicitDefEqProofs (disch:=omega) only[go_sem]
  (repeat(with_reducible refine And.intro ?_ ?_;focus first|omega|rfl|assumption|exact⟨_,rfl,rfl⟩|(simp;omega)|(simp;done)))
  refine aB (eT l[i] 1 hz (by omega)) ?_;simp -implicitDefEqProofs (disch:=omega) only[go_sem];refine aB (mR (l[i].aA.getD 1 dw) (tZ _ 1 hz)) ?_;simp -implicitDefEqProofs (disch:=omega) only[go_sem]
  (repeat(with_reducible refine And.intro ?_ ?_;focus first|omega|rfl|assumption|exact⟨_,rfl,rfl⟩|(simp;omega)|(simp;done)))
  rw[show(l[i].aA.getD 0 dw).bC=dL l[i].aA 0 from rfl,hs];exact fu 5 (by decide) (i+1) (by omega) rfl rfl rfl rfl (by omega)
 ·have hi':i=l.length:=by omega
  subst hi';rw[hTe];clear hTs;refine aB (lJ x (by omega)) ?_;simp -implicitDefEqProofs (disch:=omega) only[go_sem]
  with_reducible refine aD (fun hb=> ?_) (fun hb=> ?_)<;>have h:=hb<;>(try simp only[wf_preprocess] at h)<;>simp -implicitDefEqProofs (disch:=omega) only[go_sem,hb]<;>(repeat(with_reducible refine And.intro ?_ ?_;focus first|omega|rfl|assumption|exact⟨_,rfl,rfl⟩|(simp;omega)|(simp;done)))
  ·exact jE (bK fun e=>by rw[e.1] at h;cases h)
  have hv:=h
  with_reducible refine aD (fun hb=> ?_) (fun hb=> ?_)<;>have h:=hb<;>(try simp only[wf_preprocess] at h)<;>simp -implicitDefEqProofs (disch:=omega) only[go_sem,hb]<;>(repeat(with_reducible refine And.intro ?_ ?_;focus first|omega|rfl|assumption|exact⟨_,rfl,rfl⟩|(simp;omega)|(simp;done)))
  ·exact jE (bK fun e=>by omega)
  have hne:x.aA≠[]:=fun e=>by rw[e] at h;exact h rfl
  have hok:=adM hne;rw[hv,Bool.true_and] at hok;rw[<-hF] at hok hos hds
  (repeat(with_reducible refine And.intro ?_ ?_;focus first|omega|rfl|assumption|exact⟨_,rfl,rfl⟩|(simp;omega)|(simp;done)))
  refine aB (Z8 F (by omega)) ?_;simp -implicitDefEqProofs (disch:=omega) only[go_sem];refine aB (qh (Q6 F) x (by omega)) ?_;simp -implicitDefEqProofs (disch:=omega) only[go_sem]
  with_reducible refine aD (fun hb=> ?_) (fun hb=> ?_)<;>have h:=hb<;>(try simp only[wf_preprocess] at h)<;>simp -implicitDefEqProofs (disch:=omega) only[go_sem,hb]<;>(repeat(with_reducible refine And.intro ?_ ?_;focus first|omega|rfl|assumption|exact⟨_,rfl,rfl⟩|(simp;omega)|(simp;done)))
  ·exact jE (by rw[hok];exact bK h)
  ·have hy:okF x=true:=by rw[hok];exact dQ h
   rw[agm hy,hy,<-adN hy,<-hF];exact jv _
end Go.Ab