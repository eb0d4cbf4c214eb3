/-
  SEVERAL TEXTS IN ONE (merged by program): contracts and models, each with its own heading.
-/
import Derived.Test.YtfhpfkaeldgcmaaGreatPartHdbT
import Derived.Test.YtfhpfkaeldgcmaaGreatPartHdbY
open Go.Proofs Go.Proofs.Tryz
set_option linter.unusedSimpArgs false
set_option linter.unusedVariables false
set_option maxRecDepth 4000
namespace Go.Ab
def UD:aK:=⟨[],[],iL,false,[],mU⟩
def yU(b:Bool)(l:List au):Bool:=match b with
 |true=>decide (l.length=5)
 |false=>decide (3<l.length)
def pU(b:Bool)(y:au):aK:=if b=true/\y.aA.length<3 then UD else
 ⟨dL y.aA 0,(gX y.aA 1).aA.map (eP b),eP b (gX y.aA 2),yU b y.aA,if yU b y.aA=true then l7 y.aA 3 else [],if yU b y.aA=true then fA b (gX y.aA 4) else mU⟩
def uT(b:Bool)(x:au):bG:=
 ⟨dL x.aA 1,l7 x.aA 2,decide (wJ∈l7 x.aA 3),decide (iX∈l7 x.aA 3),(x.aA.drop 4).map (pU b)⟩
theorem aax{g:aK}(h:jS g=true):(g.iy=true->∀v∈g.aO,v≠[])/\(g.iy=false->g.aO=[]/\g.fBody=mU):=by
 unfold jS at h;simp only[Bool.and_eq_true] at h;obtain⟨_,_,_,_,h3⟩:=h;refine⟨fun hd=> ?_,fun hd=> ?_⟩
 ·rw[if_pos hd,Bool.and_eq_true] at h3;have:=h3.2;unfold nA at this;rw[Bool.and_eq_true] at this;exact xM this.1
 ·rw[if_neg (by rw[hd];decide),Bool.and_eq_true] at h3;exact⟨List.eq_nil_of_length_eq_zero (gL h3.1),gL h3.2⟩
theorem aay(b:Bool){g:aK}(h:jS g=true):pU b (sN g)=g:=by
 obtain⟨h1,h2,h3⟩:=uL h;obtain⟨h4,h5⟩:=aax h;unfold pU
 cases hd:g.iy with
 |true=>
  rw[He hd,if_neg (by simp)]
  have e:yU b [bN g.fName,d9 (g.bS.map dR),dR g.dB,d9 (dh g.aO),fO g.fBody]=true:=by cases b<;>rfl
  rw[e,if_pos rfl,if_pos rfl];show aK.mk g.fName ((g.bS.map dR).map (eP b)) (eP b (dR g.dB)) true (gq (dh g.aO)) (fA b (fO g.fBody))=g;rw[Co b h1,uw b _ h2,mQ (h4 hd),Dk b _ (h3 hd),<-hd]
 |false=>
  rw[Hf hd,if_neg (by simp)]
  have e:yU b [bN g.fName,d9 (g.bS.map dR),dR g.dB]=false:=by cases b<;>rfl
  rw[e,if_neg (by decide),if_neg (by decide)];show aK.mk g.fName ((g.bS.map dR).map (eP b)) (eP b (dR g.dB)) false [] mU=g;obtain⟨e1,e2⟩:=h5 hd;rw[Co b h1,uw b _ h2,<-e2]
  conv=>lhs;rw[<-e1,<-hd]
theorem MG{t:bG}(h:fP t=true):∀v∈t.dJ,v≠[]:=by
 unfold fP at h;simp only[Bool.and_eq_true] at h;exact xM h.2.2.1
theorem aaz(t:bG):∀v∈mO t,v≠[]:=fun v hv=>by
 unfold mO at hv;rw[List.mem_append] at hv;rcases hv with h|h
 ·split at h
  ·rw[List.mem_singleton.1 h];decide
  ·cases h
 ·split at h
  ·rw[List.mem_singleton.1 h];decide
  ·cases h
theorem Le(t:bG):decide (wJ∈mO t)=t.nH/\decide (iX∈mO t)=t.bV:=by
 unfold mO;cases t.nH<;>cases t.bV<;>exact⟨by decide,by decide⟩
theorem Jq(b:Bool){t:bG}(h:fP t=true):uT b (vg t)=t:=by
 have h1:=(lZ h).1;show bG.mk t.fName (gq (dh t.dJ)) (decide (wJ∈gq (dh (mO t)))) (decide (iX∈gq (dh (mO t)))) ((t.aS.map sN).map (pU b))=t;rw[mQ (MG h),mQ (aaz t),(Le t).1,(Le t).2,A9 fun c hc=>aay b (h1 c hc)]
noncomputable def Bc(x:au):Bool:=dec (iQ x=true/\(4<=x.aA.length/\dL x.aA 0=qD)/\fP (uT true x)=true/\vg (uT true x)=x)
theorem aaA{x:au}(hx:x.aA≠[]):Bc x=(iQ x&&dec (KV (uT false x)=x)):=
 Ru hx (fun a h1 h2=>by rw[<-h2];exact⟨Jq true h1,Jq false h1⟩) fun a h=>by rw[<-h];exact⟨by rw[vg,gZ];simp[oq],rfl⟩
theorem aaB{x:au}(h:Bc x=true):uT false x=uT true x:=by
 have h1:=gL h
 conv=>lhs;rw[<-h1.2.2.2]
 exact Jq false h1.2.2.1
def Lf:bG:=⟨[],[],false,false,[]⟩
noncomputable def Bd(x:au):bG:=if Bc x=true then uT true x else Lf
theorem ad3(b:Bool)(l:List au):aI ((l.map (eP b)).map ay.enc)<=dI l:=by
 have:=Em b l;rw[vN] at this;rw[xE];exact this
theorem aaC(b:Bool)(y:au):(pU b y).sz<=y.sz:=by
 have h1:=yT y.aA;have h2:=mV y;have h3:=mV (gX y.aA 0);have h4:=ad3 b (gX y.aA 1).aA;have h4':=mV (gX y.aA 1);have h5:=vO b (gX y.aA 2);have h6:=nS (gX y.aA 3).aA;have h6':=mV (gX y.aA 3);have h7:=zU b (gX y.aA 4);unfold pU;split
 ·simp only[UD,aK.sz,aK.aj,bF,bL,D.sz,ay.cK,aC.cK,yR,vP,List.map_nil,aI,List.length_nil];omega
 ·cases yU b y.aA with
  |true=>
   simp only[if_true,aK.sz,aK.aj,bF,bL,D.sz,ay.cK,aC.cK,List.length_map,l7,dZ,BO];omega
  |false=>
   simp only[Bool.false_eq_true,if_false,aK.sz,aK.aj,bF,bL,D.sz,ay.cK,aC.cK,List.length_map,vP,List.map_nil,aI,List.length_nil,BO];omega
theorem Lg(b:Bool):∀l:List au,aI ((l.map (pU b)).map aK.enc)<=dI l
 |[]=>by simp[aI]
 |y::l=>by
  have h1:=aaC b y;have h2:=Lg b l;rw[List.map_cons,List.map_cons,aI,dI];simp only[aK.sz] at h1;omega
theorem RA(b:Bool)(x:au):(uT b x).sz<=x.sz:=by
 have h1:=A8 x.aA;have h2:=mV x;have h3:=mV (gX x.aA 1);have h4:=nS (gX x.aA 2).aA;have h4':=mV (gX x.aA 2);have h5:=Lg b (x.aA.drop 4);simp only[bG.sz,bG.aj,bF,bL,D.sz,uT,List.length_map,List.length_drop,l7,dZ,BO];omega
def alR(l:List aK)(n:Nat):List (List D):=eu (l.map aK.enc) n
abbrev bG.cl(x:bG)(n:Nat):List C:=[.d (.s x.fName),.d (.ol n (x.dJ.map encS)),.d (.b x.nH),.d (.b x.bV),.d (.ol (n+1) (alR x.aS (n+1+1)))]
abbrev bG.cv(x:bG):List C:=[.d (.s x.fName),.d (.sl (x.dJ.map encS)),.d (.b x.nH),.d (.b x.bV),.d (.sl (x.aS.map aK.enc))]
theorem agu{x:au}(h:Bc x=false):Bd x=Lf:=if_neg (by rw[h];decide)
theorem ad4{x:au}(h:Bc x=true):Bd x=uT true x:=if_pos h
abbrev RB:List C:=[.d (.s []),.bI [],.d (.b false),.d (.b false),.bI []]
theorem aj3(e:bG)(h:e=Lf)(ok:Bool):Less (.eH [(true,RB),(false,[.d (.b ok)])]) (.eH [(true,e.cv),(false,[.d (.b ok)])]):=by
 rw[h];exact(jR.cons (.cons (.refl _) (.cons (eG _) (.cons (.refl _) (.cons (.refl _) (.cons (eG _) .nil))))) (.refl _)).less
theorem RD{y:au}(h:3<y.aA.length):pU false y=⟨(y.aA.getD 0 dw).bC,(y.aA.getD 1 dw).aA.map (eP false),eP false (y.aA.getD 2 dw),true,gq (y.aA.getD 3 dw).aA,fA false (y.aA.getD 4 dw)⟩:=by
 unfold pU;rw[if_neg (by simp),show yU false y.aA=true from decide_eq_true h];rfl
theorem RF{y:au}(h:¬3<y.aA.length):pU false y=⟨(y.aA.getD 0 dw).bC,(y.aA.getD 1 dw).aA.map (eP false),eP false (y.aA.getD 2 dw),false,[],mU⟩:=by
 unfold pU;rw[if_neg (by simp),show yU false y.aA=false from decide_eq_false h];rfl
theorem XF:mU.enc=[.i .i64 0,.s [],.s [],.i .i64 0,.i .i64 0,.s [],.sl [],.sl [],.sl []]:=by
 rw[aC.aj];rfl
theorem NS(x:au){m:Nat}(h:x.sz<=m):(gq x.aA).length<=m:=by
 have:=(nS x.aA).1;have:=gN x;omega
theorem RG(x:au)(hsz:x.sz<=1048576):bq prog 240 [x.v] (.eH [(true,(Bd x).cv),(false,[.d (.b (Bc x))])]):=bq.of_le fun S=>by
 have h1:=gN x;have hds:=RA false x;have hos:=adn (x:=uT false x) (by omega);have hgs:=fun i=>tZ x i (m:=4194304) (by omega);obtain⟨l,hl⟩:∃l,l=x.aA.drop 4:=⟨_,rfl⟩
 have hll:l.length<=4194304:=by rw[hl,List.length_drop];omega
 have hlm:∀y∈l,y.sz<=4194304:=fun y hy=>by have:=kR (List.mem_of_mem_drop (hl▸hy));omega
 obtain⟨F,hF⟩:∃F,F=uT false x:=⟨_,rfl⟩
 have f1:F.fName=(x.aA.getD 1 dw).bC:=by rw[hF];rfl
 have f2:F.dJ=gq (x.aA.getD 2 dw).aA:=by rw[hF];rfl
 have f3:F.nH=dec (wJ∈gq (x.aA.getD 3 dw).aA):=by rw[hF,<-qY];rfl
 have f4:F.bV=dec (iX∈gq (x.aA.getD 3 dw).aA):=by rw[hF,<-qY];rfl
 obtain⟨T,hT⟩:∃T:Nat->List (List D),T=fun i=>((l.map (pU false)).take i).map aK.enc:=⟨_,rfl⟩
 have hT0:T 0=[]:=by rw[hT];rfl
 have iE:∀i,(T i).length<=i:=fun i=>by rw[hT];simp only[List.length_map];exact List.length_take_le _ _
 have hTs:∀i (hi:i<l.length),T i++[(pU false l[i]).enc]=T (i+1):=fun i hi=>by
  have:=zK (e:=aK.enc) (l:=l.map (pU false)) (i:=i) (by rw[List.length_map];exact hi);rw[List.getElem_map] at this;rw[hT];exact this
 have hTe:T l.length=F.aS.map aK.enc:=by
  rw[hT];simp only
  rw[List.take_of_length_le (by simp),hF,hl];rfl
 clear hT
 have jE:Bc x=false->Less (.eH [(true,RB),(false,[.d (.b false)])]) (.eH [(true,(Bd x).cv),(false,[.d (.b (Bc x))])]):=fun e=>by
  rw[e];exact aj3 _ (agu e) false
 have c2:=ow _ (hgs 2);have c3:=nZ (gq (x.aA.getD 3 dw).aA) wJ (by have:=NS _ (hgs 3);omega);have c4:=nZ (gq (x.aA.getD 3 dw).aA) iX (by have:=NS _ (hgs 3);omega);rw[<-f2] at c2;rw[<-f3] at c3;rw[<-f4] at c4;refine zcx [.cell 2 54,.tmp 3] func240 ntmps240 ?_;simp -implicitDefEqProofs (disch:=omega) only[go_sem];refine aB (eT x 3 (by omega) (by omega)) ?_;simp -implicitDefEqProofs (disch:=omega) only[go_sem];refine aB (ow _ (hgs 3)) ?_;simp -implicitDefEqProofs (disch:=omega) only[go_sem];refine aB (eT x 1 (by omega) (by omega)) ?_;simp -implicitDefEqProofs (disch:=omega) only[go_sem];refine aB (eT x 2 (by omega) (by omega)) ?_;simp -implicitDefEqProofs (disch:=omega) only[go_sem];refine aB c2 ?_;simp -implicitDefEqProofs (disch:=omega) only[go_sem];refine aB c3 ?_;simp -implicitDefEqProofs (disch:=omega) only[go_sem];refine aB c4 ?_;simp -implicitDefEqProofs (disch:=omega) only[go_sem]
 (repeat(with_reducible refine And.intro ?_ ?_;focus first|omega|rfl|assumption|exact⟨_,rfl,rfl⟩|(simp;omega)|(simp;done)))
 refine aB (uO x 4 (by omega)) ?_;simp -implicitDefEqProofs (disch:=omega) only[go_sem];rw[<-hl,<-f1];refine jr 2 4 16 _ rfl rfl ?_
 refine bT (ι:=Nat) zmx rfl [1,2,5,6,7] (fun i=>[.c (.ptr (0,0) 0),.c (.ptr (0,1) 0),.c (.ptr (0,2) 0),.c (.d (.sl (l.map au.enc))),.c (.d (.i .i64 i))])
  (fun i=>[.box [.d (.s x.bC),.d (.sl (x.aA.map au.enc))],.box RB,.box [.d (.s F.fName),.d (.sl (F.dJ.map encS)),.d (.b F.nH),.d (.b F.bV),.bX (0,3) (T i)],.tok 16 (T i)]::S)
  (fun i=>i<=l.length) (fun i=>l.length-i) 0 rfl (by rw[hT0];rfl) (Nat.zero_le _) ?_
 intro i hi;have hl':=iE i;simp -implicitDefEqProofs (disch:=omega) only[go_sem]
 with_reducible refine aD (fun hb=> ?_) (fun hb=> ?_)<;>have h:=hb<;>(try simp only[wf_preprocess] at h)<;>simp -implicitDefEqProofs (disch:=omega) only[go_sem,hb]<;>(repeat(with_reducible refine And.intro ?_ ?_;focus first|omega|rfl|assumption|exact⟨_,rfl,rfl⟩|(simp;omega)|(simp;done)))
 ·have hi':i<l.length:=by omega
  have hz:=hlm _ (List.getElem_mem hi');have hs:=hTs i hi';have hg:=fun k=>tZ l[i] k hz;have hg1:=hg 1;have anf:=gN (l[i].aA.getD 1 dw);have hz1:=gN l[i]
  (repeat(with_reducible refine And.intro ?_ ?_;focus first|omega|rfl|assumption|exact⟨_,rfl,rfl⟩|(simp;omega)|(simp;done)))
  refine aB (eT l[i] 0 hz (by omega)) ?_;simp -implicitDefEqProofs (disch:=omega) only[go_sem]
  (repeat(with_reducible refine And.intro ?_ ?_;focus first|omega|rfl|assumption|exact⟨_,rfl,rfl⟩|(simp;omega)|(simp;done)))
  refine aB (eT l[i] 1 hz (by omega)) ?_;simp -implicitDefEqProofs (disch:=omega) only[go_sem];refine aB (EP (l[i].aA.getD 1 dw).aA (by omega) (fun t ht=>by have:=kR ht;omega)) ?_;simp -implicitDefEqProofs (disch:=omega) only[go_sem]
  (repeat(with_reducible refine And.intro ?_ ?_;focus first|omega|rfl|assumption|exact⟨_,rfl,rfl⟩|(simp;omega)|(simp;done)))
  refine aB (eT l[i] 2 hz (by omega)) ?_;simp -implicitDefEqProofs (disch:=omega) only[go_sem];refine aB (mR (l[i].aA.getD 2 dw) (hg 2)) ?_;simp -implicitDefEqProofs (disch:=omega) only[go_sem]
  (repeat(with_reducible refine And.intro ?_ ?_;focus first|omega|rfl|assumption|exact⟨_,rfl,rfl⟩|(simp;omega)|(simp;done)))
  with_reducible refine aD (fun hb=> ?_) (fun hb=> ?_)<;>have h:=hb<;>(try simp only[wf_preprocess] at h)<;>simp -implicitDefEqProofs (disch:=omega) only[go_sem,hb]<;>(repeat(with_reducible refine And.intro ?_ ?_;focus first|omega|rfl|assumption|exact⟨_,rfl,rfl⟩|(simp;omega)|(simp;done)))
  ·rw[RD (by omega)] at hs;simp only[aK.aj,aC.aj,ay.aj,List.cons_append,List.nil_append] at hs
   (repeat(with_reducible refine And.intro ?_ ?_;focus first|omega|rfl|assumption|exact⟨_,rfl,rfl⟩|(simp;omega)|(simp;done)))
   refine aB (eT l[i] 3 hz (by omega)) ?_;simp -implicitDefEqProofs (disch:=omega) only[go_sem];refine aB (ow _ (hg 3)) ?_;simp -implicitDefEqProofs (disch:=omega) only[go_sem]
   (repeat(with_reducible refine And.intro ?_ ?_;focus first|omega|rfl|assumption|exact⟨_,rfl,rfl⟩|(simp;omega)|(simp;done)))
   refine aB (eT l[i] 4 hz (by omega)) ?_;simp -implicitDefEqProofs (disch:=omega) only[go_sem];refine aB (Cr (l[i].aA.getD 4 dw) (hg 4)) ?_;simp -implicitDefEqProofs (disch:=omega) only[go_sem]
   (repeat(with_reducible refine And.intro ?_ ?_;focus first|omega|rfl|assumption|exact⟨_,rfl,rfl⟩|(simp;omega)|(simp;done)))
   rw[hs];exact fu 4 (by decide) (i+1) (by omega) rfl rfl rfl rfl (by omega)
  ·rw[RF (by omega)] at hs;simp only[aK.aj,XF,ay.aj,List.cons_append,List.nil_append,List.map_nil] at hs
   (repeat(with_reducible refine And.intro ?_ ?_;focus first|omega|rfl|assumption|exact⟨_,rfl,rfl⟩|(simp;omega)|(simp;done)))
   rw[hs];exact fu 4 (by decide) (i+1) (by omega) rfl rfl rfl rfl (by omega)
 ·have hi':i=l.length:=by omega
  subst hi';rw[hTe];clear hTs;refine aB (lJ x (by omega)) ?_;simp -implicitDefEqProofs (disch:=omega) only[go_sem]
  with_reducible refine aD (fun hb=> ?_) (fun hb=> ?_)<;>have h:=hb<;>(try simp only[wf_preprocess] at h)<;>simp -implicitDefEqProofs (disch:=omega) only[go_sem,hb]<;>(repeat(with_reducible refine And.intro ?_ ?_;focus first|omega|rfl|assumption|exact⟨_,rfl,rfl⟩|(simp;omega)|(simp;done)))
  ·exact jE (bK fun e=>by rw[e.1] at h;cases h)
  have hv:=h
  with_reducible refine aD (fun hb=> ?_) (fun hb=> ?_)<;>have h:=hb<;>(try simp only[wf_preprocess] at h)<;>simp -implicitDefEqProofs (disch:=omega) only[go_sem,hb]<;>(repeat(with_reducible refine And.intro ?_ ?_;focus first|omega|rfl|assumption|exact⟨_,rfl,rfl⟩|(simp;omega)|(simp;done)))
  ·exact jE (bK fun e=>by omega)
  have hne:x.aA≠[]:=fun e=>by rw[e] at h;exact h rfl
  have hok:=aaA hne;rw[hv,Bool.true_and] at hok;rw[<-hF] at hok hos hds
  (repeat(with_reducible refine And.intro ?_ ?_;focus first|omega|rfl|assumption|exact⟨_,rfl,rfl⟩|(simp;omega)|(simp;done)))
  refine aB (aac F (by omega)) ?_;simp -implicitDefEqProofs (disch:=omega) only[go_sem];refine aB (qh (KV F) x (by omega)) ?_;simp -implicitDefEqProofs (disch:=omega) only[go_sem]
  with_reducible refine aD (fun hb=> ?_) (fun hb=> ?_)<;>have h:=hb<;>(try simp only[wf_preprocess] at h)<;>simp -implicitDefEqProofs (disch:=omega) only[go_sem,hb]<;>(repeat(with_reducible refine And.intro ?_ ?_;focus first|omega|rfl|assumption|exact⟨_,rfl,rfl⟩|(simp;omega)|(simp;done)))
  ·exact jE (by rw[hok];exact bK h)
  ·have hy:Bc x=true:=by rw[hok];exact dQ h
   rw[ad4 hy,hy,<-aaB hy,<-hF];exact jv _
end Go.Ab