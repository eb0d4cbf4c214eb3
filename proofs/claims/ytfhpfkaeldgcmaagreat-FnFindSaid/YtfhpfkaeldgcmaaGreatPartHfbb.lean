/-
  SEVERAL TEXTS IN ONE (merged by program): contracts and models, each with its own heading.
-/
import Derived.Test.YtfhpfkaeldgcmaaGreatPartHfbT
import Derived.Test.YtfhpfkaeldgcmaaGreatPartHfbY
open Go.Proofs Go.Proofs.Tryz
set_option linter.unusedSimpArgs false
set_option linter.unusedVariables false
set_option maxRecDepth 4000
namespace Go.Ab
def Vu:aI:=⟨[],[],iN,false,[],ni⟩
def zo(b:Bool)(l:List au):Bool:=match b with
 |true=>decide (l.length=5)
 |false=>decide (3<l.length)
def qd(b:Bool)(y:au):aI:=if b=true/\y.aA.length<3 then Vu else
 ⟨dM y.aA 0,(gX y.aA 1).aA.map (eT b),eT b (gX y.aA 2),zo b y.aA,if zo b y.aA=true then mF y.aA 3 else [],if zo b y.aA=true then fA b (gX y.aA 4) else ni⟩
def vF(b:Bool)(x:au):bF:=
 ⟨dM x.aA 1,mF x.aA 2,decide (xg∈mF x.aA 3),decide (je∈mF x.aA 3),(x.aA.drop 4).map (qd b)⟩
theorem abe{g:aI}(h:j3 g=true):(g.gT=true->∀v∈g.aS,v≠[])/\(g.gT=false->g.aS=[]/\g.fBody=ni):=by
 unfold j3 at h;simp only[Bool.and_eq_true] at h;obtain⟨_,_,_,_,h3⟩:=h;refine⟨fun hd=> ?_,fun hd=> ?_⟩
 ·rw[if_pos hd,Bool.and_eq_true] at h3;have:=h3.2;unfold nH at this;rw[Bool.and_eq_true] at this;exact yA this.1
 ·rw[if_neg (by rw[hd];decide),Bool.and_eq_true] at h3;exact⟨List.eq_nil_of_length_eq_zero (gP h3.1),gP h3.2⟩
theorem abf(b:Bool){g:aI}(h:j3 g=true):qd b (tL g)=g:=by
 obtain⟨h1,h2,h3⟩:=vk h;obtain⟨h4,h5⟩:=abe h;unfold qd
 cases hd:g.gT with
 |true=>
  rw[Ij hd,if_neg (by simp)]
  have e:zo b [bR g.fName,eD (g.bP.map dR),dR g.cu,eD (dn g.aS),fQ g.fBody]=true:=by cases b<;>rfl
  rw[e,if_pos rfl,if_pos rfl];show aI.mk g.fName ((g.bP.map dR).map (eT b)) (eT b (dR g.cu)) true (gy (dn g.aS)) (fA b (fQ g.fBody))=g;rw[CX b h1,uS b _ h2,mZ (h4 hd),DT b _ (h3 hd),<-hd]
 |false=>
  rw[Ik hd,if_neg (by simp)]
  have e:zo b [bR g.fName,eD (g.bP.map dR),dR g.cu]=false:=by cases b<;>rfl
  rw[e,if_neg (by decide),if_neg (by decide)];show aI.mk g.fName ((g.bP.map dR).map (eT b)) (eT b (dR g.cu)) false [] ni=g;obtain⟨e1,e2⟩:=h5 hd;rw[CX b h1,uS b _ h2,<-e2]
  conv=>lhs;rw[<-e1,<-hd]
theorem Nn{t:bF}(h:fT t=true):∀v∈t.cO,v≠[]:=by
 unfold fT at h;simp only[Bool.and_eq_true] at h;exact yA h.2.2.1
theorem abg(t:bF):∀v∈mX t,v≠[]:=fun v hv=>by
 unfold mX at hv;rw[List.mem_append] at hv;rcases hv with h|h
 ·split at h
  ·rw[List.mem_singleton.1 h];decide
  ·cases h
 ·split at h
  ·rw[List.mem_singleton.1 h];decide
  ·cases h
theorem LV(t:bF):decide (xg∈mX t)=t.lV/\decide (je∈mX t)=t.bW:=by
 unfold mX;cases t.lV<;>cases t.bW<;>exact⟨by decide,by decide⟩
theorem JX(b:Bool){t:bF}(h:fT t=true):vF b (vN t)=t:=by
 have h1:=(mE h).1;show bF.mk t.fName (gy (dn t.cO)) (decide (xg∈gy (dn (mX t)))) (decide (je∈gy (dn (mX t)))) ((t.aK.map tL).map (qd b))=t;rw[mZ (Nn h),mZ (abg t),(LV t).1,(LV t).2,BA fun c hc=>abf b (h1 c hc)]
noncomputable def BG(x:au):Bool:=dec (iU x=true/\(4<=x.aA.length/\dM x.aA 0=qO)/\fT (vF true x)=true/\vN (vF true x)=x)
theorem abh{x:au}(hx:x.aA≠[]):BG x=(iU x&&dec (Ls (vF false x)=x)):=
 Sl hx (fun a h1 h2=>by rw[<-h2];exact⟨JX true h1,JX false h1⟩) fun a h=>by rw[<-h];exact⟨by rw[vN,iy];simp[oG],rfl⟩
theorem abj{x:au}(h:BG x=true):vF false x=vF true x:=by
 have h1:=gP h
 conv=>lhs;rw[<-h1.2.2.2]
 exact JX false h1.2.2.1
def LW:bF:=⟨[],[],false,false,[]⟩
noncomputable def BH(x:au):bF:=if BG x=true then vF true x else LW
theorem aeN(b:Bool)(l:List au):aN ((l.map (eT b)).map ay.enc)<=dK l:=by
 have:=EK b l;rw[wB] at this;rw[x9];exact this
theorem abk(b:Bool)(y:au):(qd b y).sz<=y.sz:=by
 have h1:=zn y.aA;have h2:=nk y;have h3:=nk (gX y.aA 0);have h4:=aeN b (gX y.aA 1).aA;have h4':=nk (gX y.aA 1);have h5:=wC b (gX y.aA 2);have h6:=nW (gX y.aA 3).aA;have h6':=nk (gX y.aA 3);have h7:=Ap b (gX y.aA 4);unfold qd;split
 ·simp only[Vu,aI.sz,aI.aj,bD,aY,D.sz,ay.bY,aC.bY,zl,wD,List.map_nil,aN,List.length_nil];omega
 ·cases zo b y.aA with
  |true=>
   simp only[if_true,aI.sz,aI.aj,bD,aY,D.sz,ay.bY,aC.bY,List.length_map,mF,eB,Cn];omega
  |false=>
   simp only[Bool.false_eq_true,if_false,aI.sz,aI.aj,bD,aY,D.sz,ay.bY,aC.bY,List.length_map,wD,List.map_nil,aN,List.length_nil,Cn];omega
theorem LX(b:Bool):∀l:List au,aN ((l.map (qd b)).map aI.enc)<=dK l
 |[]=>by simp[aN]
 |y::l=>by
  have h1:=abk b y;have h2:=LX b l;rw[List.map_cons,List.map_cons,aN,dK];simp only[aI.sz] at h1;omega
theorem Sw(b:Bool)(x:au):(vF b x).sz<=x.sz:=by
 have h1:=Bz x.aA;have h2:=nk x;have h3:=nk (gX x.aA 1);have h4:=nW (gX x.aA 2).aA;have h4':=nk (gX x.aA 2);have h5:=LX b (x.aA.drop 4);simp only[bF.sz,bF.aj,bD,aY,D.sz,vF,List.length_map,List.length_drop,mF,eB,Cn];omega
def amO(l:List aI)(n:Nat):List (List D):=eU (l.map aI.enc) n
abbrev bF.cl(x:bF)(n:Nat):List C:=[.d (.s x.fName),.d (.ol n (x.cO.map encS)),.d (.b x.lV),.d (.b x.bW),.d (.ol (n+1) (amO x.aK (n+1+1)))]
abbrev bF.cv(x:bF):List C:=[.d (.s x.fName),.d (.sl (x.cO.map encS)),.d (.b x.lV),.d (.b x.bW),.d (.sl (x.aK.map aI.enc))]
theorem ahi{x:au}(h:BG x=false):BH x=LW:=if_neg (by rw[h];decide)
theorem aeO{x:au}(h:BG x=true):BH x=vF true x:=if_pos h
abbrev Sy:List C:=[.d (.s []),.bI [],.d (.b false),.d (.b false),.bI []]
theorem akW(e:bF)(h:e=LW)(ok:Bool):Less (.eu [(true,Sy),(false,[.d (.b ok)])]) (.eu [(true,e.cv),(false,[.d (.b ok)])]):=by
 rw[h];exact(jZ.cons (.cons (.refl _) (.cons (eO _) (.cons (.refl _) (.cons (.refl _) (.cons (eO _) .nil))))) (.refl _)).less
theorem Sz{y:au}(h:3<y.aA.length):qd false y=⟨(y.aA.getD 0 dz).bK,(y.aA.getD 1 dz).aA.map (eT false),eT false (y.aA.getD 2 dz),true,gy (y.aA.getD 3 dz).aA,fA false (y.aA.getD 4 dz)⟩:=by
 unfold qd;rw[if_neg (by simp),show zo false y.aA=true from decide_eq_true h];rfl
theorem SA{y:au}(h:¬3<y.aA.length):qd false y=⟨(y.aA.getD 0 dz).bK,(y.aA.getD 1 dz).aA.map (eT false),eT false (y.aA.getD 2 dz),false,[],ni⟩:=by
 unfold qd;rw[if_neg (by simp),show zo false y.aA=false from decide_eq_false h];rfl
theorem Yx:ni.enc=[.i .i64 0,.s [],.s [],.i .i64 0,.i .i64 0,.s [],.sl [],.sl [],.sl []]:=by
 rw[aC.aj];rfl
theorem OG(x:au){m:Nat}(h:x.sz<=m):(gy x.aA).length<=m:=by
 have:=(nW x.aA).1;have:=gV x;omega
theorem SB(x:au)(hsz:x.sz<=1048576):bg prog 240 [x.v] (.eu [(true,(BH x).cv),(false,[.d (.b (BG x))])]):=bg.of_le fun S=>by
 have h1:=gV x;have hds:=Sw false x;have hos:=ad6 (x:=vF false x) (by omega);have hgs:=fun i=>uK x i (m:=4194304) (by omega);obtain⟨l,hl⟩:∃l,l=x.aA.drop 4:=⟨_,rfl⟩
 have hll:l.length<=4194304:=by rw[hl,List.length_drop];omega
 have hlm:∀y∈l,y.sz<=4194304:=fun y hy=>by have:=kY (List.mem_of_mem_drop (hl▸hy));omega
 obtain⟨F,hF⟩:∃F,F=vF false x:=⟨_,rfl⟩
 have f1:F.fName=(x.aA.getD 1 dz).bK:=by rw[hF];rfl
 have f2:F.cO=gy (x.aA.getD 2 dz).aA:=by rw[hF];rfl
 have f3:F.lV=dec (xg∈gy (x.aA.getD 3 dz).aA):=by rw[hF,<-rO];rfl
 have f4:F.bW=dec (je∈gy (x.aA.getD 3 dz).aA):=by rw[hF,<-rO];rfl
 obtain⟨T,hT⟩:∃T:Nat->List (List D),T=fun i=>((l.map (qd false)).take i).map aI.enc:=⟨_,rfl⟩
 have hT0:T 0=[]:=by rw[hT];rfl
 have iG:∀i,(T i).length<=i:=fun i=>by rw[hT];simp only[List.length_map];exact List.length_take_le _ _
 have hTs:∀i (hi:i<l.length),T i++[(qd false l[i]).enc]=T (i+1):=fun i hi=>by
  have:=Ag (e:=aI.enc) (l:=l.map (qd false)) (i:=i) (by rw[List.length_map];exact hi);rw[List.getElem_map] at this;rw[hT];exact this
 have hTe:T l.length=F.aK.map aI.enc:=by
  rw[hT];simp only
  rw[List.take_of_length_le (by simp),hF,hl];rfl
 clear hT
 have jK:BG x=false->Less (.eu [(true,Sy),(false,[.d (.b false)])]) (.eu [(true,(BH x).cv),(false,[.d (.b (BG x))])]):=fun e=>by
  rw[e];exact akW _ (ahi e) false
 have c2:=oI _ (hgs 2);have c3:=ou (gy (x.aA.getD 3 dz).aA) xg (by have:=OG _ (hgs 3);omega);have c4:=ou (gy (x.aA.getD 3 dz).aA) je (by have:=OG _ (hgs 3);omega);rw[<-f2] at c2;rw[<-f3] at c3;rw[<-f4] at c4;refine zcx [.cell 2 54,.tmp 3] func240 ntmps240 ?_;simp -implicitDefEqProofs (disch:=omega) only[go_sem];refine aB (eX x 3 (by omega) (by omega)) ?_;simp -implicitDefEqProofs (disch:=omega) only[go_sem];refine aB (oI _ (hgs 3)) ?_;simp -implicitDefEqProofs (disch:=omega) only[go_sem];refine aB (eX x 1 (by omega) (by omega)) ?_;simp -implicitDefEqProofs (disch:=omega) only[go_sem];refine aB (eX x 2 (by omega) (by omega)) ?_;simp -implicitDefEqProofs (disch:=omega) only[go_sem];refine aB c2 ?_;simp -implicitDefEqProofs (disch:=omega) only[go_sem];refine aB c3 ?_;simp -implicitDefEqProofs (disch:=omega) only[go_sem];refine aB c4 ?_;simp -implicitDefEqProofs (disch:=omega) only[go_sem]
 (repeat(with_reducible refine And.intro ?_ ?_;focus first|omega|rfl|assumption|exact⟨_,rfl,rfl⟩|(simp;omega)|(simp;done)))
 refine aB (vw x 4 (by omega)) ?_;simp -implicitDefEqProofs (disch:=omega) only[go_sem];rw[<-hl,<-f1];refine jD 2 4 16 _ rfl rfl ?_
 refine bO (ι:=Nat) zmx rfl [1,2,5,6,7] (fun i=>[.c (.ptr (0,0) 0),.c (.ptr (0,1) 0),.c (.ptr (0,2) 0),.c (.d (.sl (l.map au.enc))),.c (.d (.i .i64 i))])
  (fun i=>[.box [.d (.s x.bK),.d (.sl (x.aA.map au.enc))],.box Sy,.box [.d (.s F.fName),.d (.sl (F.cO.map encS)),.d (.b F.lV),.d (.b F.bW),.bS (0,3) (T i)],.tok 16 (T i)]::S)
  (fun i=>i<=l.length) (fun i=>l.length-i) 0 rfl (by rw[hT0];rfl) (Nat.zero_le _) ?_
 intro i hi;have hl':=iG i;simp -implicitDefEqProofs (disch:=omega) only[go_sem]
 with_reducible refine aD (fun hb=> ?_) (fun hb=> ?_)<;>have h:=hb<;>(try simp only[wf_preprocess] at h)<;>simp -implicitDefEqProofs (disch:=omega) only[go_sem,hb]<;>(repeat(with_reducible refine And.intro ?_ ?_;focus first|omega|rfl|assumption|exact⟨_,rfl,rfl⟩|(simp;omega)|(simp;done)))
 ·have hi':i<l.length:=by omega
  have hz:=hlm _ (List.getElem_mem hi');have hs:=hTs i hi';have hg:=fun k=>uK l[i] k hz;have hg1:=hg 1;have aog:=gV (l[i].aA.getD 1 dz);have hz1:=gV l[i]
  (repeat(with_reducible refine And.intro ?_ ?_;focus first|omega|rfl|assumption|exact⟨_,rfl,rfl⟩|(simp;omega)|(simp;done)))
  refine aB (eX l[i] 0 hz (by omega)) ?_;simp -implicitDefEqProofs (disch:=omega) only[go_sem]
  (repeat(with_reducible refine And.intro ?_ ?_;focus first|omega|rfl|assumption|exact⟨_,rfl,rfl⟩|(simp;omega)|(simp;done)))
  refine aB (eX l[i] 1 hz (by omega)) ?_;simp -implicitDefEqProofs (disch:=omega) only[go_sem];refine aB (Fv (l[i].aA.getD 1 dz).aA (by omega) (fun t ht=>by have:=kY ht;omega)) ?_;simp -implicitDefEqProofs (disch:=omega) only[go_sem]
  (repeat(with_reducible refine And.intro ?_ ?_;focus first|omega|rfl|assumption|exact⟨_,rfl,rfl⟩|(simp;omega)|(simp;done)))
  refine aB (eX l[i] 2 hz (by omega)) ?_;simp -implicitDefEqProofs (disch:=omega) only[go_sem];refine aB (ng (l[i].aA.getD 2 dz) (hg 2)) ?_;simp -implicitDefEqProofs (disch:=omega) only[go_sem]
  (repeat(with_reducible refine And.intro ?_ ?_;focus first|omega|rfl|assumption|exact⟨_,rfl,rfl⟩|(simp;omega)|(simp;done)))
  with_reducible refine aD (fun hb=> ?_) (fun hb=> ?_)<;>have h:=hb<;>(try simp only[wf_preprocess] at h)<;>simp -implicitDefEqProofs (disch:=omega) only[go_sem,hb]<;>(repeat(with_reducible refine And.intro ?_ ?_;focus first|omega|rfl|assumption|exact⟨_,rfl,rfl⟩|(simp;omega)|(simp;done)))
  ·rw[Sz (by omega)] at hs;simp only[aI.aj,aC.aj,ay.aj,List.cons_append,List.nil_append] at hs
   (repeat(with_reducible refine And.intro ?_ ?_;focus first|omega|rfl|assumption|exact⟨_,rfl,rfl⟩|(simp;omega)|(simp;done)))
   refine aB (eX l[i] 3 hz (by omega)) ?_;simp -implicitDefEqProofs (disch:=omega) only[go_sem];refine aB (oI _ (hg 3)) ?_;simp -implicitDefEqProofs (disch:=omega) only[go_sem]
   (repeat(with_reducible refine And.intro ?_ ?_;focus first|omega|rfl|assumption|exact⟨_,rfl,rfl⟩|(simp;omega)|(simp;done)))
   refine aB (eX l[i] 4 hz (by omega)) ?_;simp -implicitDefEqProofs (disch:=omega) only[go_sem];refine aB (CZ (l[i].aA.getD 4 dz) (hg 4)) ?_;simp -implicitDefEqProofs (disch:=omega) only[go_sem]
   (repeat(with_reducible refine And.intro ?_ ?_;focus first|omega|rfl|assumption|exact⟨_,rfl,rfl⟩|(simp;omega)|(simp;done)))
   rw[hs];exact dZ 4 (by decide) (i+1) (by omega) rfl rfl rfl rfl (by omega)
  ·rw[SA (by omega)] at hs;simp only[aI.aj,Yx,ay.aj,List.cons_append,List.nil_append,List.map_nil] at hs
   (repeat(with_reducible refine And.intro ?_ ?_;focus first|omega|rfl|assumption|exact⟨_,rfl,rfl⟩|(simp;omega)|(simp;done)))
   rw[hs];exact dZ 4 (by decide) (i+1) (by omega) rfl rfl rfl rfl (by omega)
 ·have hi':i=l.length:=by omega
  subst hi';rw[hTe];clear hTs;refine aB (lU x (by omega)) ?_;simp -implicitDefEqProofs (disch:=omega) only[go_sem]
  with_reducible refine aD (fun hb=> ?_) (fun hb=> ?_)<;>have h:=hb<;>(try simp only[wf_preprocess] at h)<;>simp -implicitDefEqProofs (disch:=omega) only[go_sem,hb]<;>(repeat(with_reducible refine And.intro ?_ ?_;focus first|omega|rfl|assumption|exact⟨_,rfl,rfl⟩|(simp;omega)|(simp;done)))
  ·exact jK (bM fun e=>by rw[e.1] at h;cases h)
  have hv:=h
  with_reducible refine aD (fun hb=> ?_) (fun hb=> ?_)<;>have h:=hb<;>(try simp only[wf_preprocess] at h)<;>simp -implicitDefEqProofs (disch:=omega) only[go_sem,hb]<;>(repeat(with_reducible refine And.intro ?_ ?_;focus first|omega|rfl|assumption|exact⟨_,rfl,rfl⟩|(simp;omega)|(simp;done)))
  ·exact jK (bM fun e=>by omega)
  have hne:x.aA≠[]:=fun e=>by rw[e] at h;exact h rfl
  have hok:=abh hne;rw[hv,Bool.true_and] at hok;rw[<-hF] at hok hos hds
  (repeat(with_reducible refine And.intro ?_ ?_;focus first|omega|rfl|assumption|exact⟨_,rfl,rfl⟩|(simp;omega)|(simp;done)))
  refine aB (aaR F (by omega)) ?_;simp -implicitDefEqProofs (disch:=omega) only[go_sem];refine aB (qA (Ls F) x (by omega)) ?_;simp -implicitDefEqProofs (disch:=omega) only[go_sem]
  with_reducible refine aD (fun hb=> ?_) (fun hb=> ?_)<;>have h:=hb<;>(try simp only[wf_preprocess] at h)<;>simp -implicitDefEqProofs (disch:=omega) only[go_sem,hb]<;>(repeat(with_reducible refine And.intro ?_ ?_;focus first|omega|rfl|assumption|exact⟨_,rfl,rfl⟩|(simp;omega)|(simp;done)))
  ·exact jK (by rw[hok];exact bM h)
  ·have hy:BG x=true:=by rw[hok];exact dH h
   rw[aeO hy,hy,<-abj hy,<-hF];exact jE _
end Go.Ab