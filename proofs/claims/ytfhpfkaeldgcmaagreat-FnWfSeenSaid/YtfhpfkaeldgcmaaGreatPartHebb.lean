/-
  SEVERAL TEXTS IN ONE (merged by program): contracts and models, each with its own heading.
-/
import Derived.Test.YtfhpfkaeldgcmaaGreatPartHebT
import Derived.Test.YtfhpfkaeldgcmaaGreatPartHebY
open Go.Proofs Go.Proofs.Tryz
set_option linter.unusedSimpArgs false
set_option linter.unusedVariables false
set_option maxRecDepth 4000
namespace Go.Ab
def VL:aI:=⟨[],[],iL,false,[],mU⟩
def zG(b:Bool)(l:List au):Bool:=match b with
 |true=>decide (l.length=5)
 |false=>decide (3<l.length)
def qj(b:Bool)(y:au):aI:=if b=true/\y.aA.length<3 then VL else
 ⟨dL y.aA 0,(gX y.aA 1).aA.map (eP b),eP b (gX y.aA 2),zG b y.aA,if zG b y.aA=true then mo y.aA 3 else [],if zG b y.aA=true then fA b (gX y.aA 4) else mU⟩
def vG(b:Bool)(x:au):bD:=
 ⟨dL x.aA 1,mo x.aA 2,decide (xB∈mo x.aA 3),decide (iZ∈mo x.aA 3),(x.aA.drop 4).map (qj b)⟩
theorem abB{g:aI}(h:jQ g=true):(g.iC=true->∀v∈g.aU,v≠[])/\(g.iC=false->g.aU=[]/\g.fBody=mU):=by
 unfold jQ at h;simp only[Bool.and_eq_true] at h;obtain⟨_,_,_,_,h3⟩:=h;refine⟨fun hd=> ?_,fun hd=> ?_⟩
 ·rw[if_pos hd,Bool.and_eq_true] at h3;have:=h3.2;unfold nH at this;rw[Bool.and_eq_true] at this;exact yD this.1
 ·rw[if_neg (by rw[hd];decide),Bool.and_eq_true] at h3;exact⟨List.eq_nil_of_length_eq_zero (gD h3.1),gD h3.2⟩
theorem abC(b:Bool){g:aI}(h:jQ g=true):qj b (tH g)=g:=by
 obtain⟨h1,h2,h3⟩:=vo h;obtain⟨h4,h5⟩:=abB h;unfold qj
 cases hd:g.iC with
 |true=>
  rw[IL hd,if_neg (by simp)]
  have e:zG b [bQ g.fName,eB (g.bO.map dU),dU g.dn,eB (cZ g.aU),fM g.fBody]=true:=by cases b<;>rfl
  rw[e,if_pos rfl,if_pos rfl];show aI.mk g.fName ((g.bO.map dU).map (eP b)) (eP b (dU g.dn)) true (gq (cZ g.aU)) (fA b (fM g.fBody))=g;rw[Dh b h1,uR b _ h2,mQ (h4 hd),Ea b _ (h3 hd),<-hd]
 |false=>
  rw[IQ hd,if_neg (by simp)]
  have e:zG b [bQ g.fName,eB (g.bO.map dU),dU g.dn]=false:=by cases b<;>rfl
  rw[e,if_neg (by decide),if_neg (by decide)];show aI.mk g.fName ((g.bO.map dU).map (eP b)) (eP b (dU g.dn)) false [] mU=g;obtain⟨e1,e2⟩:=h5 hd;rw[Dh b h1,uR b _ h2,<-e2]
  conv=>lhs;rw[<-e1,<-hd]
theorem Nu{t:bD}(h:fQ t=true):∀v∈t.dG,v≠[]:=by
 unfold fQ at h;simp only[Bool.and_eq_true] at h;exact yD h.2.2.1
theorem abD(t:bD):∀v∈mO t,v≠[]:=fun v hv=>by
 unfold mO at hv;rw[List.mem_append] at hv;rcases hv with h|h
 ·split at h
  ·rw[List.mem_singleton.1 h];decide
  ·cases h
 ·split at h
  ·rw[List.mem_singleton.1 h];decide
  ·cases h
theorem Mi(t:bD):decide (xB∈mO t)=t.nN/\decide (iZ∈mO t)=t.bX:=by
 unfold mO;cases t.nN<;>cases t.bX<;>exact⟨by decide,by decide⟩
theorem Ki(b:Bool){t:bD}(h:fQ t=true):vG b (vO t)=t:=by
 have h1:=(mh h).1;show bD.mk t.fName (gq (cZ t.dG)) (decide (xB∈gq (cZ (mO t)))) (decide (iZ∈gq (cZ (mO t)))) ((t.aO.map tH).map (qj b))=t;rw[mQ (Nu h),mQ (abD t),(Mi t).1,(Mi t).2,BM fun c hc=>abC b (h1 c hc)]
noncomputable def BP(x:au):Bool:=dec (iR x=true/\(4<=x.aA.length/\dL x.aA 0=qP)/\fQ (vG true x)=true/\vO (vG true x)=x)
theorem abE{x:au}(hx:x.aA≠[]):BP x=(iR x&&dec (LP (vG false x)=x)):=
 Sz hx (fun a h1 h2=>by rw[<-h2];exact⟨Ki true h1,Ki false h1⟩) fun a h=>by rw[<-h];exact⟨by rw[vO,iw];simp[oK],rfl⟩
theorem abF{x:au}(h:BP x=true):vG false x=vG true x:=by
 have h1:=gD h
 conv=>lhs;rw[<-h1.2.2.2]
 exact Ki false h1.2.2.1
def Mj:bD:=⟨[],[],false,false,[]⟩
noncomputable def BQ(x:au):bD:=if BP x=true then vG true x else Mj
theorem afc(b:Bool)(l:List au):aQ ((l.map (eP b)).map ay.enc)<=dH l:=by
 have:=EZ b l;rw[wF] at this;rw[yt];exact this
theorem abG(b:Bool)(y:au):(qj b y).sz<=y.sz:=by
 have h1:=zF y.aA;have h2:=mV y;have h3:=mV (gX y.aA 0);have h4:=afc b (gX y.aA 1).aA;have h4':=mV (gX y.aA 1);have h5:=wG b (gX y.aA 2);have h6:=oo (gX y.aA 3).aA;have h6':=mV (gX y.aA 3);have h7:=AO b (gX y.aA 4);unfold qj;split
 ·simp only[VL,aI.sz,aI.aj,bG,bC,D.sz,ay.cK,aD.cK,zC,wH,List.map_nil,aQ,List.length_nil];omega
 ·cases zG b y.aA with
  |true=>
   simp only[if_true,aI.sz,aI.aj,bG,bC,D.sz,ay.cK,aD.cK,List.length_map,mo,eu,CG];omega
  |false=>
   simp only[Bool.false_eq_true,if_false,aI.sz,aI.aj,bG,bC,D.sz,ay.cK,aD.cK,List.length_map,wH,List.map_nil,aQ,List.length_nil,CG];omega
theorem Mk(b:Bool):∀l:List au,aQ ((l.map (qj b)).map aI.enc)<=dH l
 |[]=>by simp[aQ]
 |y::l=>by
  have h1:=abG b y;have h2:=Mk b l;rw[List.map_cons,List.map_cons,aQ,dH];simp only[aI.sz] at h1;omega
theorem SG(b:Bool)(x:au):(vG b x).sz<=x.sz:=by
 have h1:=BL x.aA;have h2:=mV x;have h3:=mV (gX x.aA 1);have h4:=oo (gX x.aA 2).aA;have h4':=mV (gX x.aA 2);have h5:=Mk b (x.aA.drop 4);simp only[bD.sz,bD.aj,bG,bC,D.sz,vG,List.length_map,List.length_drop,mo,eu,CG];omega
def am3(l:List aI)(n:Nat):List (List D):=ig (l.map aI.enc) n
abbrev bD.cl(x:bD)(n:Nat):List C:=[.d (.s x.fName),.d (.ol n (x.dG.map encS)),.d (.b x.nN),.d (.b x.bX),.d (.ol (n+1) (am3 x.aO (n+1+1)))]
abbrev bD.cv(x:bD):List C:=[.d (.s x.fName),.d (.sl (x.dG.map encS)),.d (.b x.nN),.d (.b x.bX),.d (.sl (x.aO.map aI.enc))]
theorem ahG{x:au}(h:BP x=false):BQ x=Mj:=if_neg (by rw[h];decide)
theorem afd{x:au}(h:BP x=true):BQ x=vG true x:=if_pos h
abbrev SH:List C:=[.d (.s []),.bM [],.d (.b false),.d (.b false),.bM []]
theorem alg(e:bD)(h:e=Mj)(ok:Bool):Less (.eD [(true,SH),(false,[.d (.b ok)])]) (.eD [(true,e.cv),(false,[.d (.b ok)])]):=by
 rw[h];exact(jP.cons (.cons (.refl _) (.cons (eO _) (.cons (.refl _) (.cons (.refl _) (.cons (eO _) .nil))))) (.refl _)).less
theorem SI{y:au}(h:3<y.aA.length):qj false y=⟨(y.aA.getD 0 dh).bH,(y.aA.getD 1 dh).aA.map (eP false),eP false (y.aA.getD 2 dh),true,gq (y.aA.getD 3 dh).aA,fA false (y.aA.getD 4 dh)⟩:=by
 unfold qj;rw[if_neg (by simp),show zG false y.aA=true from decide_eq_true h];rfl
theorem SK{y:au}(h:¬3<y.aA.length):qj false y=⟨(y.aA.getD 0 dh).bH,(y.aA.getD 1 dh).aA.map (eP false),eP false (y.aA.getD 2 dh),false,[],mU⟩:=by
 unfold qj;rw[if_neg (by simp),show zG false y.aA=false from decide_eq_false h];rfl
theorem YL:mU.enc=[.i .i64 0,.s [],.s [],.i .i64 0,.i .i64 0,.s [],.sl [],.sl [],.sl []]:=by
 rw[aD.aj];rfl
theorem OT(x:au){m:Nat}(h:x.sz<=m):(gq x.aA).length<=m:=by
 have:=(oo x.aA).1;have:=gM x;omega
theorem SL(x:au)(hsz:x.sz<=1048576):aX prog 240 [x.v] (.eD [(true,(BQ x).cv),(false,[.d (.b (BP x))])]):=aX.of_le fun S=>by
 have h1:=gM x;have hds:=SG false x;have hos:=aex (x:=vG false x) (by omega);have hgs:=fun i=>uH x i (m:=4194304) (by omega);obtain⟨l,hl⟩:∃l,l=x.aA.drop 4:=⟨_,rfl⟩
 have hll:l.length<=4194304:=by rw[hl,List.length_drop];omega
 have hlm:∀y∈l,y.sz<=4194304:=fun y hy=>by have:=kQ (List.mem_of_mem_drop (hl▸hy));omega
 obtain⟨F,hF⟩:∃F,F=vG false x:=⟨_,rfl⟩
 have f1:F.fName=(x.aA.getD 1 dh).bH:=by rw[hF];rfl
 have f2:F.dG=gq (x.aA.getD 2 dh).aA:=by rw[hF];rfl
 have f3:F.nN=dec (xB∈gq (x.aA.getD 3 dh).aA):=by rw[hF,<-nM];rfl
 have f4:F.bX=dec (iZ∈gq (x.aA.getD 3 dh).aA):=by rw[hF,<-nM];rfl
 obtain⟨T,hT⟩:∃T:Nat->List (List D),T=fun i=>((l.map (qj false)).take i).map aI.enc:=⟨_,rfl⟩
 have hT0:T 0=[]:=by rw[hT];rfl
 have jY:∀i,(T i).length<=i:=fun i=>by rw[hT];simp only[List.length_map];exact List.length_take_le _ _
 have hTs:∀i (hi:i<l.length),T i++[(qj false l[i]).enc]=T (i+1):=fun i hi=>by
  have:=Ar (e:=aI.enc) (l:=l.map (qj false)) (i:=i) (by rw[List.length_map];exact hi);rw[List.getElem_map] at this;rw[hT];exact this
 have hTe:T l.length=F.aO.map aI.enc:=by
  rw[hT];simp only
  rw[List.take_of_length_le (by simp),hF,hl];rfl
 clear hT
 have jB:BP x=false->Less (.eD [(true,SH),(false,[.d (.b false)])]) (.eD [(true,(BQ x).cv),(false,[.d (.b (BP x))])]):=fun e=>by
  rw[e];exact alg _ (ahG e) false
 have c2:=oN _ (hgs 2);have c3:=oF (gq (x.aA.getD 3 dh).aA) xB (by have:=OT _ (hgs 3);omega);have c4:=oF (gq (x.aA.getD 3 dh).aA) iZ (by have:=OT _ (hgs 3);omega);rw[<-f2] at c2;rw[<-f3] at c3;rw[<-f4] at c4;refine zcx [.cell 2 54,.tmp 3] func240 ntmps240 ?_;simp -implicitDefEqProofs (disch:=omega) only[go_sem];refine aB (eT x 3 (by omega) (by omega)) ?_;simp -implicitDefEqProofs (disch:=omega) only[go_sem];refine aB (oN _ (hgs 3)) ?_;simp -implicitDefEqProofs (disch:=omega) only[go_sem];refine aB (eT x 1 (by omega) (by omega)) ?_;simp -implicitDefEqProofs (disch:=omega) only[go_sem];refine aB (eT x 2 (by omega) (by omega)) ?_;simp -implicitDefEqProofs (disch:=omega) only[go_sem];refine aB c2 ?_;simp -implicitDefEqProofs (disch:=omega) only[go_sem];refine aB c3 ?_;simp -implicitDefEqProofs (disch:=omega) only[go_sem];refine aB c4 ?_;simp -implicitDefEqProofs (disch:=omega) only[go_sem]
 (repeat(with_reducible refine And.intro ?_ ?_;focus first|omega|rfl|assumption|exact⟨_,rfl,rfl⟩|(simp;omega)|(simp;done)))
 refine aB (vB x 4 (by omega)) ?_;simp -implicitDefEqProofs (disch:=omega) only[go_sem];rw[<-hl,<-f1];refine jr 2 4 16 _ rfl rfl ?_
 refine bN (ι:=Nat) zmx rfl [1,2,5,6,7] (fun i=>[.c (.ptr (0,0) 0),.c (.ptr (0,1) 0),.c (.ptr (0,2) 0),.c (.d (.sl (l.map au.enc))),.c (.d (.i .i64 i))])
  (fun i=>[.box [.d (.s x.bH),.d (.sl (x.aA.map au.enc))],.box SH,.box [.d (.s F.fName),.d (.sl (F.dG.map encS)),.d (.b F.nN),.d (.b F.bX),.bV (0,3) (T i)],.tok 16 (T i)]::S)
  (fun i=>i<=l.length) (fun i=>l.length-i) 0 rfl (by rw[hT0];rfl) (Nat.zero_le _) ?_
 intro i hi;have hl':=jY i;simp -implicitDefEqProofs (disch:=omega) only[go_sem]
 with_reducible refine aC (fun hb=> ?_) (fun hb=> ?_)<;>have h:=hb<;>(try simp only[wf_preprocess] at h)<;>simp -implicitDefEqProofs (disch:=omega) only[go_sem,hb]<;>(repeat(with_reducible refine And.intro ?_ ?_;focus first|omega|rfl|assumption|exact⟨_,rfl,rfl⟩|(simp;omega)|(simp;done)))
 ·have hi':i<l.length:=by omega
  have hz:=hlm _ (List.getElem_mem hi');have hs:=hTs i hi';have hg:=fun k=>uH l[i] k hz;have hg1:=hg 1;have aov:=gM (l[i].aA.getD 1 dh);have hz1:=gM l[i]
  (repeat(with_reducible refine And.intro ?_ ?_;focus first|omega|rfl|assumption|exact⟨_,rfl,rfl⟩|(simp;omega)|(simp;done)))
  refine aB (eT l[i] 0 hz (by omega)) ?_;simp -implicitDefEqProofs (disch:=omega) only[go_sem]
  (repeat(with_reducible refine And.intro ?_ ?_;focus first|omega|rfl|assumption|exact⟨_,rfl,rfl⟩|(simp;omega)|(simp;done)))
  refine aB (eT l[i] 1 hz (by omega)) ?_;simp -implicitDefEqProofs (disch:=omega) only[go_sem];refine aB (FP (l[i].aA.getD 1 dh).aA (by omega) (fun t ht=>by have:=kQ ht;omega)) ?_;simp -implicitDefEqProofs (disch:=omega) only[go_sem]
  (repeat(with_reducible refine And.intro ?_ ?_;focus first|omega|rfl|assumption|exact⟨_,rfl,rfl⟩|(simp;omega)|(simp;done)))
  refine aB (eT l[i] 2 hz (by omega)) ?_;simp -implicitDefEqProofs (disch:=omega) only[go_sem];refine aB (mR (l[i].aA.getD 2 dh) (hg 2)) ?_;simp -implicitDefEqProofs (disch:=omega) only[go_sem]
  (repeat(with_reducible refine And.intro ?_ ?_;focus first|omega|rfl|assumption|exact⟨_,rfl,rfl⟩|(simp;omega)|(simp;done)))
  with_reducible refine aC (fun hb=> ?_) (fun hb=> ?_)<;>have h:=hb<;>(try simp only[wf_preprocess] at h)<;>simp -implicitDefEqProofs (disch:=omega) only[go_sem,hb]<;>(repeat(with_reducible refine And.intro ?_ ?_;focus first|omega|rfl|assumption|exact⟨_,rfl,rfl⟩|(simp;omega)|(simp;done)))
  ·rw[SI (by omega)] at hs;simp only[aI.aj,aD.aj,ay.aj,List.cons_append,List.nil_append] at hs
   (repeat(with_reducible refine And.intro ?_ ?_;focus first|omega|rfl|assumption|exact⟨_,rfl,rfl⟩|(simp;omega)|(simp;done)))
   refine aB (eT l[i] 3 hz (by omega)) ?_;simp -implicitDefEqProofs (disch:=omega) only[go_sem];refine aB (oN _ (hg 3)) ?_;simp -implicitDefEqProofs (disch:=omega) only[go_sem]
   (repeat(with_reducible refine And.intro ?_ ?_;focus first|omega|rfl|assumption|exact⟨_,rfl,rfl⟩|(simp;omega)|(simp;done)))
   refine aB (eT l[i] 4 hz (by omega)) ?_;simp -implicitDefEqProofs (disch:=omega) only[go_sem];refine aB (Dj (l[i].aA.getD 4 dh) (hg 4)) ?_;simp -implicitDefEqProofs (disch:=omega) only[go_sem]
   (repeat(with_reducible refine And.intro ?_ ?_;focus first|omega|rfl|assumption|exact⟨_,rfl,rfl⟩|(simp;omega)|(simp;done)))
   rw[hs];exact fu 4 (by decide) (i+1) (by omega) rfl rfl rfl rfl (by omega)
  ·rw[SK (by omega)] at hs;simp only[aI.aj,YL,ay.aj,List.cons_append,List.nil_append,List.map_nil] at hs
   (repeat(with_reducible refine And.intro ?_ ?_;focus first|omega|rfl|assumption|exact⟨_,rfl,rfl⟩|(simp;omega)|(simp;done)))
   rw[hs];exact fu 4 (by decide) (i+1) (by omega) rfl rfl rfl rfl (by omega)
 ·have hi':i=l.length:=by omega
  subst hi';rw[hTe];clear hTs;refine aB (lS x (by omega)) ?_;simp -implicitDefEqProofs (disch:=omega) only[go_sem]
  with_reducible refine aC (fun hb=> ?_) (fun hb=> ?_)<;>have h:=hb<;>(try simp only[wf_preprocess] at h)<;>simp -implicitDefEqProofs (disch:=omega) only[go_sem,hb]<;>(repeat(with_reducible refine And.intro ?_ ?_;focus first|omega|rfl|assumption|exact⟨_,rfl,rfl⟩|(simp;omega)|(simp;done)))
  ·exact jB (bJ fun e=>by rw[e.1] at h;cases h)
  have hv:=h
  with_reducible refine aC (fun hb=> ?_) (fun hb=> ?_)<;>have h:=hb<;>(try simp only[wf_preprocess] at h)<;>simp -implicitDefEqProofs (disch:=omega) only[go_sem,hb]<;>(repeat(with_reducible refine And.intro ?_ ?_;focus first|omega|rfl|assumption|exact⟨_,rfl,rfl⟩|(simp;omega)|(simp;done)))
  ·exact jB (bJ fun e=>by omega)
  have hne:x.aA≠[]:=fun e=>by rw[e] at h;exact h rfl
  have hok:=abE hne;rw[hv,Bool.true_and] at hok;rw[<-hF] at hok hos hds
  (repeat(with_reducible refine And.intro ?_ ?_;focus first|omega|rfl|assumption|exact⟨_,rfl,rfl⟩|(simp;omega)|(simp;done)))
  refine aB (abb F (by omega)) ?_;simp -implicitDefEqProofs (disch:=omega) only[go_sem];refine aB (qC (LP F) x (by omega)) ?_;simp -implicitDefEqProofs (disch:=omega) only[go_sem]
  with_reducible refine aC (fun hb=> ?_) (fun hb=> ?_)<;>have h:=hb<;>(try simp only[wf_preprocess] at h)<;>simp -implicitDefEqProofs (disch:=omega) only[go_sem,hb]<;>(repeat(with_reducible refine And.intro ?_ ?_;focus first|omega|rfl|assumption|exact⟨_,rfl,rfl⟩|(simp;omega)|(simp;done)))
  ·exact jB (by rw[hok];exact bJ h)
  ·have hy:BP x=true:=by rw[hok];exact dD h
   rw[afd hy,hy,<-abF hy,<-hF];exact jv _
end Go.Ab