/-
  SEVERAL TEXTS IN ONE (merged by program): contracts and models, each with its own heading.
-/
import Derived.Test.YtfhpfkaeldgcmaaGreatPartHdbY
import Derived.Test.YtfhpfkaeldgcmaaGreatPartHdbZ
open Go.Proofs Go.Proofs.Tryz
set_option linter.unusedSimpArgs false
set_option linter.unusedVariables false
set_option maxRecDepth 4000
namespace Go.Ab
def uS(b:Bool)(y:au):aN:=if b=true/\y.aA.length≠3 then⟨[],[],mU⟩ else⟨dL y.aA 0,l7 y.aA 1,fA b (gX y.aA 2)⟩
def za(b:Bool)(x:au):aH:=
 ⟨dL x.aA 1,l7 x.aA 2,eP b (gX x.aA 3),(gX x.aA 4).aA.map (qE b),decide (0<(gX x.aA 5).aA.length),decide (0<(gX x.aA 6).aA.length),
   if 0<(gX x.aA 6).aA.length then eP b (gX (gX x.aA 6).aA 0) else iL,(x.aA.drop 7).map (uS b)⟩
theorem aaw{vars:List (List UInt8)}{e:aC}(h:nA vars e=true):∀v∈vars,v≠[]:=by
 unfold nA at h;rw[Bool.and_eq_true] at h;exact xM h.1
theorem adX(b:Bool){m:aN}(h:nA m.aO m.fBody=true):uS b (oD m)=m:=by
 unfold uS;rw[if_neg (by simp[oD,gZ])];show aN.mk m.fName (gq (dh m.aO)) (fA b (fO m.fBody))=m;rw[mQ (aaw h),Dk b _ (BF h)]
theorem inst_more{x:aH}(h:gH x=true):(∀v∈x.aO,v≠[])/\(x.fB=false->x.bV=iL)/\(∀m∈x.aQ,nA m.aO m.fBody=true):=by
 unfold gH Ba at h;simp only[Bool.and_eq_true] at h;obtain⟨⟨_,_,h0,h1,_,_,_,h2,h3,_⟩,h4,_⟩:=h;refine⟨xM h0,fun ha=> ?_,fun m hm=> ?_⟩
 ·rw[if_neg (by rw[ha];decide)] at h3;exact oL (gL h3)
 ·have h5:=List.all_eq_true.1 h4 m hm;unfold rW at h5;simp only[Bool.and_eq_true] at h5;exact h5.2.2
theorem MF(b:Bool){x:aH}(h:gH x=true):za b (wX x)=x:=by
 obtain⟨h1,h2,h3,h4⟩:=mZ h;obtain⟨g1,g2,g3⟩:=inst_more h;show aH.mk x.bU (gq (dh x.aO)) (eP b (dR x.dA)) ((x.dO.map wI).map (qE b)) (decide (0<(dh (oC x)).length)) (decide (0<(nE x).length)) (if 0<(nE x).length then eP b (gX (nE x) 0) else iL) ((x.aQ.map oD).map (uS b))=x;rw[mQ g1,uw b _ h1,A9 fun c hc=>Uz b (h2 c hc),A9 fun c hc=>adX b (g3 c hc),kS]
 have e1:decide (0<(oC x).length)=x.iA:=by unfold oC;cases x.iA<;>rfl
 rw[e1];unfold nE
 cases ha:x.fB with
 |true=>
  rw[if_pos rfl];show aH.mk _ _ _ _ _ true (eP b (dR x.bV)) _=x;rw[uw b _ (h3 ha),<-ha]
 |false=>
  rw[if_neg (by decide)];show aH.mk _ _ _ _ _ false iL _=x;rw[<-g2 ha,<-ha]
noncomputable def Gi(x:au):Bool:=dec (iQ x=true/\(7<=x.aA.length/\dL x.aA 0=sO)/\gH (za true x)=true/\wX (za true x)=x)
theorem adY{x:au}(hx:x.aA≠[]):Gi x=(iQ x&&dec (Ry (za false x)=x)):=
 Ru hx (fun a h1 h2=>by rw[<-h2];exact⟨MF true h1,MF false h1⟩) fun a h=>by rw[<-h];exact⟨by rw[wX,gZ];simp[nM],rfl⟩
theorem adZ{x:au}(h:Gi x=true):za false x=za true x:=by
 have h1:=gL h
 conv=>lhs;rw[<-h1.2.2.2]
 exact MF false h1.2.2.1
def Ld:aH:=⟨[],[],iL,[],false,false,iL,[]⟩
noncomputable def Gj(x:au):aH:=if Gi x=true then za true x else Ld
theorem ad1(b:Bool)(y:au):(uS b y).sz<=y.sz:=by
 have h1:=A8 y.aA;have h2:=mV y;have h3:=mV (gX y.aA 0);have h4:=nS (gX y.aA 1).aA;have h4':=mV (gX y.aA 1);have h5:=zU b (gX y.aA 2);unfold uS;split
 ·simp only[aN.sz,aN.aj,bF,bL,D.sz,aC.cK,vP,List.map_nil,aI,List.length_nil];omega
 ·simp only[aN.sz,aN.aj,bF,bL,D.sz,aC.cK,List.length_map,l7,dZ,BO];omega
theorem NR(b:Bool):∀l:List au,aI ((l.map (uS b)).map aN.enc)<=dI l
 |[]=>by simp[aI]
 |y::l=>by
  have h1:=ad1 b y;have h2:=NR b l;rw[List.map_cons,List.map_cons,aI,dI];simp only[aN.sz] at h1;omega
theorem UC(b:Bool)(x:au):(za b x).sz<=x.sz:=by
 have h1:=yT x.aA;have h2:=mV x;have h3:=mV (gX x.aA 1);have h4:=nS (gX x.aA 2).aA;have h4':=mV (gX x.aA 2);have h5:=vO b (gX x.aA 3);have h6:=Jp b (gX x.aA 4).aA;have h6':=mV (gX x.aA 4)
 have h7:(if 0<(gX x.aA 6).aA.length then eP b (gX (gX x.aA 6).aA 0) else iL).sz<=(gX x.aA 6).sz:=by
  have a1:=mV (gX x.aA 6);have a2:=A8 (gX x.aA 6).aA;have a3:=vO b (gX (gX x.aA 6).aA 0);split
  ·omega
  ·rw[yR];omega
 have h8:=NR b (x.aA.drop 7);generalize hz:(if 0<(gX x.aA 6).aA.length then eP b (gX (gX x.aA 6).aA 0) else iL)=z at h7;simp only[aH.sz,aH.aj,bF,bL,D.sz,ay.cK,za,hz,List.length_map,List.length_drop,l7,dZ,BO];omega
def lMe(l:List aN)(n:Nat):List (List D):=eu (l.map aN.enc) n
abbrev aH.cl(x:aH)(n p q r:Nat):List C:=[.d (.s x.bU),.d (.ol n (x.aO.map encS)),.d (.i .i64 x.dA.aR),.d (.s x.dA.fName),.d (.ol (n+1) (lt x.dA.fArgs (n+1+1))),.d (.ol p (lB x.dO (p+1))),.d (.b x.iA),.d (.b x.fB),
 .d (.i .i64 x.bV.aR),.d (.s x.bV.fName),.d (.ol q (lt x.bV.fArgs (q+1))),.d (.ol r (lMe x.aQ (r+1)))]
abbrev aH.cv(x:aH):List C:=[.d (.s x.bU),.d (.sl (x.aO.map encS)),.d (.i .i64 x.dA.aR),.d (.s x.dA.fName),.d (.sl (x.dA.fArgs.map ay.enc)),.d (.sl (x.dO.map aM.enc)),.d (.b x.iA),.d (.b x.fB),
 .d (.i .i64 x.bV.aR),.d (.s x.bV.fName),.d (.sl (x.bV.fArgs.map ay.enc)),.d (.sl (x.aQ.map aN.enc))]
theorem ah5{x:au}(h:Gi x=false):Gj x=Ld:=if_neg (by rw[h];decide)
theorem agt{x:au}(h:Gi x=true):Gj x=za true x:=if_pos h
abbrev Gl:List C:=[.d (.s []),.bI [],.d (.i .i64 0),.d (.s []),.bI [],.bI [],.d (.b false),.d (.b false),.d (.i .i64 0),.d (.s []),.bI [],.bI []]
theorem alQ(e:aH)(h:e=Ld)(ok:Bool):Less (.eH [(true,Gl),(false,[.d (.b ok)])]) (.eH [(true,e.cv),(false,[.d (.b ok)])]):=by
 rw[h];exact(jR.cons (.cons (.refl _) (.cons (eG _) (.cons (.refl _) (.cons (.refl _) (.cons (eG _) (.cons (eG _) (.cons (.refl _) (.cons (.refl _) (.cons (.refl _) (.cons (.refl _) (.cons (eG _) (.cons (eG _) .nil)))))))))))) (.refl _)).less
theorem ad2{b:Bool}{y:au}(h:b=false\/y.aA.length=3):uS b y=⟨(y.aA.getD 0 dw).bC,gq (y.aA.getD 1 dw).aA,fA b (y.aA.getD 2 dw)⟩:=by
 unfold uS;rw[if_neg (by rintro⟨e1,e2⟩;rcases h with e|e;(rw[e] at e1;cases e1);exact e2 e)];rfl
theorem TG(x:au)(hsz:x.sz<=1048576):bq prog 242 [x.v] (.eH [(true,(Gj x).cv),(false,[.d (.b (Gi x))])]):=bq.of_le fun S=>by
 have h1:=gN x;have hds:=UC false x;have hos:=agq (x:=za false x) (by omega);have hgs:=fun i=>tZ x i (m:=4194304) (by omega);obtain⟨l,hl⟩:∃l,l=x.aA.drop 7:=⟨_,rfl⟩
 have hll:l.length<=4194304:=by rw[hl,List.length_drop];omega
 have hlm:∀y∈l,y.sz<=4194304:=fun y hy=>by have:=kR (List.mem_of_mem_drop (hl▸hy));omega
 obtain⟨F,hF⟩:∃F,F=za false x:=⟨_,rfl⟩;obtain⟨z,hz6⟩:∃z,z=x.aA.getD 6 dw:=⟨_,rfl⟩;have hzz:=hgs 6;rw[<-hz6] at hzz
 have f1:F.bU=(x.aA.getD 1 dw).bC:=by rw[hF];rfl
 have f2:F.aO=gq (x.aA.getD 2 dw).aA:=by rw[hF];rfl
 have f3:F.dA=eP false (x.aA.getD 3 dw):=by rw[hF];rfl
 have f4:F.dO=(x.aA.getD 4 dw).aA.map (qE false):=by rw[hF];rfl
 have f5:F.iA=decide ((0:Int)<((x.aA.getD 5 dw).aA.length:Int)):=by rw[hF];show decide (0<(x.aA.getD 5 dw).aA.length)=_;exact decide_eq_decide.2 (by omega)
 have f6:F.fB=decide (0<z.aA.length):=by rw[hF,hz6];rfl
 have f7:F.bV=if 0<z.aA.length then eP false (gX z.aA 0) else iL:=by rw[hF,hz6];rfl
 obtain⟨T,hT⟩:∃T:Nat->List (List D),T=fun i=>((l.map (uS false)).take i).map aN.enc:=⟨_,rfl⟩
 have hT0:T 0=[]:=by rw[hT];rfl
 have iE:∀i,(T i).length<=i:=fun i=>by rw[hT];simp only[List.length_map];exact List.length_take_le _ _
 have hTs:∀i (hi:i<l.length),T i++[(uS false l[i]).enc]=T (i+1):=fun i hi=>by
  have:=zK (e:=aN.enc) (l:=l.map (uS false)) (i:=i) (by rw[List.length_map];exact hi);rw[List.getElem_map] at this;rw[hT];exact this
 have hTe:T l.length=F.aQ.map aN.enc:=by
  rw[hT];simp only
  rw[List.take_of_length_le (by simp),hF,hl];rfl
 clear hT
 have jE:Gi x=false->Less (.eH [(true,Gl),(false,[.d (.b false)])]) (.eH [(true,(Gj x).cv),(false,[.d (.b (Gi x))])]):=fun e=>by
  rw[e];exact alQ _ (ah5 e) false
 have c2:=ow _ (hgs 2);have c3:=mR (x.aA.getD 3 dw) (hgs 3);have c4:=ES _ (hgs 4);rw[<-f2] at c2;rw[<-f3] at c3;rw[<-f4] at c4;refine(show Hold ?T->_ from fun tail=> ?main) ?tp
 case' main=>
  refine zcx [.cell 2 45,.tmp 3] func242 ntmps242 ?_;simp -implicitDefEqProofs (disch:=omega) only[go_sem];refine aB (eT x 1 (by omega) (by omega)) ?_;simp -implicitDefEqProofs (disch:=omega) only[go_sem];refine aB (eT x 2 (by omega) (by omega)) ?_;simp -implicitDefEqProofs (disch:=omega) only[go_sem];refine aB c2 ?_;simp -implicitDefEqProofs (disch:=omega) only[go_sem];refine aB (eT x 3 (by omega) (by omega)) ?_;simp -implicitDefEqProofs (disch:=omega) only[go_sem];refine aB c3 ?_;simp -implicitDefEqProofs (disch:=omega) only[go_sem];refine aB (eT x 4 (by omega) (by omega)) ?_;simp -implicitDefEqProofs (disch:=omega) only[go_sem];refine aB c4 ?_;simp -implicitDefEqProofs (disch:=omega) only[go_sem];refine aB (eT x 5 (by omega) (by omega)) ?_;simp -implicitDefEqProofs (disch:=omega) only[go_sem]
  (repeat(with_reducible refine And.intro ?_ ?_;focus first|omega|rfl|assumption|exact⟨_,rfl,rfl⟩|(simp;omega)|(simp;done)))
  refine aB (eT x 6 (by omega) (by omega)) ?_;simp -implicitDefEqProofs (disch:=omega) only[go_sem];rw[<-hz6]
  with_reducible refine aD (fun hb=> ?_) (fun hb=> ?_)<;>have h:=hb<;>(try simp only[wf_preprocess] at h)<;>simp -implicitDefEqProofs (disch:=omega) only[go_sem,hb]<;>(repeat(with_reducible refine And.intro ?_ ?_;focus first|omega|rfl|assumption|exact⟨_,rfl,rfl⟩|(simp;omega)|(simp;done)))
  ·have hpos:0<z.aA.length:=by omega
   rw[if_pos hpos,aas hpos] at f7;have hz0:=aj2 z hpos;have c7:=mR z.aA[0] (by omega);rw[<-f7] at c7;have f6':F.fB=true:=f6.trans (decide_eq_true hpos)
   (repeat(with_reducible refine And.intro ?_ ?_;focus first|omega|rfl|assumption|exact⟨_,rfl,rfl⟩|(simp;omega)|(simp;done)))
   refine aB c7 ?_;simp -implicitDefEqProofs (disch:=omega) only[go_sem]
   (repeat(with_reducible refine And.intro ?_ ?_;focus first|omega|rfl|assumption|exact⟨_,rfl,rfl⟩|(simp;omega)|(simp;done)))
   refine aB (uO x 7 (by omega)) ?_;simp -implicitDefEqProofs (disch:=omega) only[go_sem];rw[<-hl,<-f1,<-f5];refine jr 2 11 11 _ rfl rfl ?_
   refine Ay (st':=[.box [.d (.s x.bC),.d (.sl (x.aA.map au.enc))],.box Gl,.box [.d (.s F.bU),.d (.sl (F.aO.map encS)),.d (.i .i64 F.dA.aR),.d (.s F.dA.fName),.d (.sl (F.dA.fArgs.map ay.enc)),.d (.sl (F.dO.map aM.enc)),.d (.b F.iA),.d (.b F.fB),.d (.i .i64 F.bV.aR),.d (.s F.bV.fName),.d (.sl (F.bV.fArgs.map ay.enc)),.bX (0,4) []],
    .box [.d (.s z.bC),.d (.sl (z.aA.map au.enc))],.tok 11 []]::S) [1,2,4,6,7] [.c (.ptr (0,0) 0),.c (.ptr (0,1) 0),.c (.ptr (0,2) 0),.c (.d (.sl (l.map au.enc))),.c (.d (.i .i64 0))] ?_ ?_ ?_
   ·rfl
   ·rw[f6'];rfl
   ·exact tail.out
  ·have hpos:¬0<z.aA.length:=by omega
   rw[if_neg hpos] at f7;have f6':F.fB=false:=f6.trans (decide_eq_false hpos);refine aB (uO x 7 (by omega)) ?_;simp -implicitDefEqProofs (disch:=omega) only[go_sem];rw[<-hl,<-f1,<-f5];refine WI 2 _ _ rfl (Nr (eG []) 10 _ rfl) ?_;refine jr 2 11 11 _ rfl rfl ?_
   refine Ay (st':=[.box [.d (.s x.bC),.d (.sl (x.aA.map au.enc))],.box Gl,.box [.d (.s F.bU),.d (.sl (F.aO.map encS)),.d (.i .i64 F.dA.aR),.d (.s F.dA.fName),.d (.sl (F.dA.fArgs.map ay.enc)),.d (.sl (F.dO.map aM.enc)),.d (.b F.iA),.d (.b F.fB),.d (.i .i64 F.bV.aR),.d (.s F.bV.fName),.d (.sl (F.bV.fArgs.map ay.enc)),.bX (0,4) []],
    .box [.d (.s z.bC),.d (.sl (z.aA.map au.enc))],.tok 11 []]::S) [1,2,4,6,7] [.c (.ptr (0,0) 0),.c (.ptr (0,1) 0),.c (.ptr (0,2) 0),.c (.d (.sl (l.map au.enc))),.c (.d (.i .i64 0))] ?_ ?_ ?_
   ·rfl
   ·rw[f6',f7];rfl
   ·exact tail.out
 refine⟨?_⟩
 refine bT (ι:=Nat) zmx rfl [1,2,4,6,7] (fun i=>[.c (.ptr (0,0) 0),.c (.ptr (0,1) 0),.c (.ptr (0,2) 0),.c (.d (.sl (l.map au.enc))),.c (.d (.i .i64 i))])
  (fun i=>[.box [.d (.s x.bC),.d (.sl (x.aA.map au.enc))],.box Gl,.box [.d (.s F.bU),.d (.sl (F.aO.map encS)),.d (.i .i64 F.dA.aR),.d (.s F.dA.fName),.d (.sl (F.dA.fArgs.map ay.enc)),.d (.sl (F.dO.map aM.enc)),.d (.b F.iA),.d (.b F.fB),.d (.i .i64 F.bV.aR),.d (.s F.bV.fName),.d (.sl (F.bV.fArgs.map ay.enc)),.bX (0,4) (T i)],
    .box [.d (.s z.bC),.d (.sl (z.aA.map au.enc))],.tok 11 (T i)]::S)
  (fun i=>i<=l.length) (fun i=>l.length-i) 0 rfl (by rw[hT0]) (Nat.zero_le _) ?_
 intro i hi;have hl':=iE i;simp -implicitDefEqProofs (disch:=omega) only[go_sem]
 with_reducible refine aD (fun hb=> ?_) (fun hb=> ?_)<;>have h:=hb<;>(try simp only[wf_preprocess] at h)<;>simp -implicitDefEqProofs (disch:=omega) only[go_sem,hb]<;>(repeat(with_reducible refine And.intro ?_ ?_;focus first|omega|rfl|assumption|exact⟨_,rfl,rfl⟩|(simp;omega)|(simp;done)))
 ·have hi':i<l.length:=by omega
  have hz:=hlm _ (List.getElem_mem hi');have hs:=hTs i hi';have hg:=fun k=>tZ l[i] k hz;rw[ad2 (b:=false) (.inl rfl)] at hs;simp only[aN.aj,aC.aj,ay.aj,List.cons_append,List.nil_append] at hs
  (repeat(with_reducible refine And.intro ?_ ?_;focus first|omega|rfl|assumption|exact⟨_,rfl,rfl⟩|(simp;omega)|(simp;done)))
  refine aB (eT l[i] 0 hz (by omega)) ?_;simp -implicitDefEqProofs (disch:=omega) only[go_sem]
  (repeat(with_reducible refine And.intro ?_ ?_;focus first|omega|rfl|assumption|exact⟨_,rfl,rfl⟩|(simp;omega)|(simp;done)))
  refine aB (eT l[i] 1 hz (by omega)) ?_;simp -implicitDefEqProofs (disch:=omega) only[go_sem];refine aB (ow _ (hg 1)) ?_;simp -implicitDefEqProofs (disch:=omega) only[go_sem]
  (repeat(with_reducible refine And.intro ?_ ?_;focus first|omega|rfl|assumption|exact⟨_,rfl,rfl⟩|(simp;omega)|(simp;done)))
  refine aB (eT l[i] 2 hz (by omega)) ?_;simp -implicitDefEqProofs (disch:=omega) only[go_sem];refine aB (Cr (l[i].aA.getD 2 dw) (hg 2)) ?_;simp -implicitDefEqProofs (disch:=omega) only[go_sem]
  (repeat(with_reducible refine And.intro ?_ ?_;focus first|omega|rfl|assumption|exact⟨_,rfl,rfl⟩|(simp;omega)|(simp;done)))
  rw[hs];exact fu 5 (by decide) (i+1) (by omega) rfl rfl rfl rfl (by omega)
 ·have hi':i=l.length:=by omega
  subst hi';rw[hTe];clear hTs;refine aB (lJ x (by omega)) ?_;simp -implicitDefEqProofs (disch:=omega) only[go_sem]
  with_reducible refine aD (fun hb=> ?_) (fun hb=> ?_)<;>have h:=hb<;>(try simp only[wf_preprocess] at h)<;>simp -implicitDefEqProofs (disch:=omega) only[go_sem,hb]<;>(repeat(with_reducible refine And.intro ?_ ?_;focus first|omega|rfl|assumption|exact⟨_,rfl,rfl⟩|(simp;omega)|(simp;done)))
  ·exact jE (bK fun e=>by rw[e.1] at h;cases h)
  have hv:=h
  with_reducible refine aD (fun hb=> ?_) (fun hb=> ?_)<;>have h:=hb<;>(try simp only[wf_preprocess] at h)<;>simp -implicitDefEqProofs (disch:=omega) only[go_sem,hb]<;>(repeat(with_reducible refine And.intro ?_ ?_;focus first|omega|rfl|assumption|exact⟨_,rfl,rfl⟩|(simp;omega)|(simp;done)))
  ·exact jE (bK fun e=>by omega)
  have hne:x.aA≠[]:=fun e=>by rw[e] at h;exact h rfl
  have hok:=adY hne;rw[hv,Bool.true_and] at hok;rw[<-hF] at hok hos hds
  (repeat(with_reducible refine And.intro ?_ ?_;focus first|omega|rfl|assumption|exact⟨_,rfl,rfl⟩|(simp;omega)|(simp;done)))
  refine aB (adW F (by omega)) ?_;simp -implicitDefEqProofs (disch:=omega) only[go_sem];refine aB (qh (Ry F) x (by omega)) ?_;simp -implicitDefEqProofs (disch:=omega) only[go_sem]
  with_reducible refine aD (fun hb=> ?_) (fun hb=> ?_)<;>have h:=hb<;>(try simp only[wf_preprocess] at h)<;>simp -implicitDefEqProofs (disch:=omega) only[go_sem,hb]<;>(repeat(with_reducible refine And.intro ?_ ?_;focus first|omega|rfl|assumption|exact⟨_,rfl,rfl⟩|(simp;omega)|(simp;done)))
  ·exact jE (by rw[hok];exact bK h)
  ·have hy:Gi x=true:=by rw[hok];exact dQ h
   rw[agt hy,hy,<-adZ hy,<-hF];exact jv _
end Go.Ab