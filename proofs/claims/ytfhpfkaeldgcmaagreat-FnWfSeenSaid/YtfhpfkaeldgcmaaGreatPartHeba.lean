/-
  SEVERAL TEXTS IN ONE (merged by program): contracts and models, each with its own heading.
-/
import Derived.Test.YtfhpfkaeldgcmaaGreatPartHebY
import Derived.Test.YtfhpfkaeldgcmaaGreatPartHebZ
open Go.Proofs Go.Proofs.Tryz
set_option linter.unusedSimpArgs false
set_option linter.unusedVariables false
set_option maxRecDepth 4000
namespace Go.Ab
def vF(b:Bool)(y:au):aR:=if b=true/\y.aA.length≠3 then⟨[],[],mU⟩ else⟨dL y.aA 0,mo y.aA 1,fA b (gX y.aA 2)⟩
def zQ(b:Bool)(x:au):aJ:=
 ⟨dL x.aA 1,mo x.aA 2,eP b (gX x.aA 3),(gX x.aA 4).aA.map (qQ b),decide (0<(gX x.aA 5).aA.length),decide (0<(gX x.aA 6).aA.length),
   if 0<(gX x.aA 6).aA.length then eP b (gX (gX x.aA 6).aA 0) else iL,(x.aA.drop 7).map (vF b)⟩
theorem abA{vars:List (List UInt8)}{e:aD}(h:nH vars e=true):∀v∈vars,v≠[]:=by
 unfold nH at h;rw[Bool.and_eq_true] at h;exact yD h.1
theorem ae7(b:Bool){m:aR}(h:nH m.aU m.fBody=true):vF b (oQ m)=m:=by
 unfold vF;rw[if_neg (by simp[oQ,iw])];show aR.mk m.fName (gq (cZ m.aU)) (fA b (fM m.fBody))=m;rw[mQ (abA h),Ea b _ (Cq h)]
theorem inst_more{x:aJ}(h:gH x=true):(∀v∈x.aU,v≠[])/\(x.fI=false->x.bX=iL)/\(∀m∈x.bA,nH m.aU m.fBody=true):=by
 unfold gH BN at h;simp only[Bool.and_eq_true] at h;obtain⟨⟨_,_,h0,h1,_,_,_,h2,h3,_⟩,h4,_⟩:=h;refine⟨yD h0,fun ha=> ?_,fun m hm=> ?_⟩
 ·rw[if_neg (by rw[ha];decide)] at h3;exact pF (gD h3)
 ·have h5:=List.all_eq_true.1 h4 m hm;unfold sG at h5;simp only[Bool.and_eq_true] at h5;exact h5.2.2
theorem Nt(b:Bool){x:aJ}(h:gH x=true):zQ b (xU x)=x:=by
 obtain⟨h1,h2,h3,h4⟩:=ni h;obtain⟨g1,g2,g3⟩:=inst_more h;show aJ.mk x.bW (gq (cZ x.aU)) (eP b (dU x.dI)) ((x.dV.map xA).map (qQ b)) (decide (0<(cZ (oP x)).length)) (decide (0<(nK x).length)) (if 0<(nK x).length then eP b (gX (nK x) 0) else iL) ((x.bA.map oQ).map (vF b))=x;rw[mQ g1,uR b _ h1,BM fun c hc=>VI b (h2 c hc),BM fun c hc=>ae7 b (g3 c hc),kR]
 have e1:decide (0<(oP x).length)=x.iP:=by unfold oP;cases x.iP<;>rfl
 rw[e1];unfold nK
 cases ha:x.fI with
 |true=>
  rw[if_pos rfl];show aJ.mk _ _ _ _ _ true (eP b (dU x.bX)) _=x;rw[uR b _ (h3 ha),<-ha]
 |false=>
  rw[if_neg (by decide)];show aJ.mk _ _ _ _ _ false iL _=x;rw[<-g2 ha,<-ha]
noncomputable def Hl(x:au):Bool:=dec (iR x=true/\(7<=x.aA.length/\dL x.aA 0=tJ)/\gH (zQ true x)=true/\xU (zQ true x)=x)
theorem ae8{x:au}(hx:x.aA≠[]):Hl x=(iR x&&dec (SE (zQ false x)=x)):=
 Sz hx (fun a h1 h2=>by rw[<-h2];exact⟨Nt true h1,Nt false h1⟩) fun a h=>by rw[<-h];exact⟨by rw[xU,iw];simp[nV],rfl⟩
theorem ae9{x:au}(h:Hl x=true):zQ false x=zQ true x:=by
 have h1:=gD h
 conv=>lhs;rw[<-h1.2.2.2]
 exact Nt false h1.2.2.1
def Mh:aJ:=⟨[],[],iL,[],false,false,iL,[]⟩
noncomputable def Ho(x:au):aJ:=if Hl x=true then zQ true x else Mh
theorem afa(b:Bool)(y:au):(vF b y).sz<=y.sz:=by
 have h1:=BL y.aA;have h2:=mV y;have h3:=mV (gX y.aA 0);have h4:=oo (gX y.aA 1).aA;have h4':=mV (gX y.aA 1);have h5:=AO b (gX y.aA 2);unfold vF;split
 ·simp only[aR.sz,aR.aj,bG,bC,D.sz,aD.cK,wH,List.map_nil,aQ,List.length_nil];omega
 ·simp only[aR.sz,aR.aj,bG,bC,D.sz,aD.cK,List.length_map,mo,eu,CG];omega
theorem OQ(b:Bool):∀l:List au,aQ ((l.map (vF b)).map aR.enc)<=dH l
 |[]=>by simp[aQ]
 |y::l=>by
  have h1:=afa b y;have h2:=OQ b l;rw[List.map_cons,List.map_cons,aQ,dH];simp only[aR.sz] at h1;omega
theorem VK(b:Bool)(x:au):(zQ b x).sz<=x.sz:=by
 have h1:=zF x.aA;have h2:=mV x;have h3:=mV (gX x.aA 1);have h4:=oo (gX x.aA 2).aA;have h4':=mV (gX x.aA 2);have h5:=wG b (gX x.aA 3);have h6:=Kh b (gX x.aA 4).aA;have h6':=mV (gX x.aA 4)
 have h7:(if 0<(gX x.aA 6).aA.length then eP b (gX (gX x.aA 6).aA 0) else iL).sz<=(gX x.aA 6).sz:=by
  have a1:=mV (gX x.aA 6);have a2:=BL (gX x.aA 6).aA;have a3:=wG b (gX (gX x.aA 6).aA 0);split
  ·omega
  ·rw[zC];omega
 have h8:=OQ b (x.aA.drop 7);generalize hz:(if 0<(gX x.aA 6).aA.length then eP b (gX (gX x.aA 6).aA 0) else iL)=z at h7;simp only[aJ.sz,aJ.aj,bG,bC,D.sz,ay.cK,zQ,hz,List.length_map,List.length_drop,mo,eu,CG];omega
def lMe(l:List aR)(n:Nat):List (List D):=ig (l.map aR.enc) n
abbrev aJ.cl(x:aJ)(n p q r:Nat):List C:=[.d (.s x.bW),.d (.ol n (x.aU.map encS)),.d (.i .i64 x.dI.aV),.d (.s x.dI.fName),.d (.ol (n+1) (lt x.dI.fArgs (n+1+1))),.d (.ol p (lB x.dV (p+1))),.d (.b x.iP),.d (.b x.fI),
 .d (.i .i64 x.bX.aV),.d (.s x.bX.fName),.d (.ol q (lt x.bX.fArgs (q+1))),.d (.ol r (lMe x.bA (r+1)))]
abbrev aJ.cv(x:aJ):List C:=[.d (.s x.bW),.d (.sl (x.aU.map encS)),.d (.i .i64 x.dI.aV),.d (.s x.dI.fName),.d (.sl (x.dI.fArgs.map ay.enc)),.d (.sl (x.dV.map aS.enc)),.d (.b x.iP),.d (.b x.fI),
 .d (.i .i64 x.bX.aV),.d (.s x.bX.fName),.d (.sl (x.bX.fArgs.map ay.enc)),.d (.sl (x.bA.map aR.enc))]
theorem ajm{x:au}(h:Hl x=false):Ho x=Mh:=if_neg (by rw[h];decide)
theorem ahF{x:au}(h:Hl x=true):Ho x=zQ true x:=if_pos h
abbrev Hq:List C:=[.d (.s []),.bM [],.d (.i .i64 0),.d (.s []),.bM [],.bM [],.d (.b false),.d (.b false),.d (.i .i64 0),.d (.s []),.bM [],.bM []]
theorem am2(e:aJ)(h:e=Mh)(ok:Bool):Less (.eD [(true,Hq),(false,[.d (.b ok)])]) (.eD [(true,e.cv),(false,[.d (.b ok)])]):=by
 rw[h];exact(jP.cons (.cons (.refl _) (.cons (eO _) (.cons (.refl _) (.cons (.refl _) (.cons (eO _) (.cons (eO _) (.cons (.refl _) (.cons (.refl _) (.cons (.refl _) (.cons (.refl _) (.cons (eO _) (.cons (eO _) .nil)))))))))))) (.refl _)).less
theorem afb{b:Bool}{y:au}(h:b=false\/y.aA.length=3):vF b y=⟨(y.aA.getD 0 dh).bH,gq (y.aA.getD 1 dh).aA,fA b (y.aA.getD 2 dh)⟩:=by
 unfold vF;rw[if_neg (by rintro⟨e1,e2⟩;rcases h with e|e;(rw[e] at e1;cases e1);exact e2 e)];rfl
theorem UM(x:au)(hsz:x.sz<=1048576):aX prog 242 [x.v] (.eD [(true,(Ho x).cv),(false,[.d (.b (Hl x))])]):=aX.of_le fun S=>by
 have h1:=gM x;have hds:=VK false x;have hos:=ahD (x:=zQ false x) (by omega);have hgs:=fun i=>uH x i (m:=4194304) (by omega);obtain⟨l,hl⟩:∃l,l=x.aA.drop 7:=⟨_,rfl⟩
 have hll:l.length<=4194304:=by rw[hl,List.length_drop];omega
 have hlm:∀y∈l,y.sz<=4194304:=fun y hy=>by have:=kQ (List.mem_of_mem_drop (hl▸hy));omega
 obtain⟨F,hF⟩:∃F,F=zQ false x:=⟨_,rfl⟩;obtain⟨z,hz6⟩:∃z,z=x.aA.getD 6 dh:=⟨_,rfl⟩;have hzz:=hgs 6;rw[<-hz6] at hzz
 have f1:F.bW=(x.aA.getD 1 dh).bH:=by rw[hF];rfl
 have f2:F.aU=gq (x.aA.getD 2 dh).aA:=by rw[hF];rfl
 have f3:F.dI=eP false (x.aA.getD 3 dh):=by rw[hF];rfl
 have f4:F.dV=(x.aA.getD 4 dh).aA.map (qQ false):=by rw[hF];rfl
 have f5:F.iP=decide ((0:Int)<((x.aA.getD 5 dh).aA.length:Int)):=by rw[hF];show decide (0<(x.aA.getD 5 dh).aA.length)=_;exact decide_eq_decide.2 (by omega)
 have f6:F.fI=decide (0<z.aA.length):=by rw[hF,hz6];rfl
 have f7:F.bX=if 0<z.aA.length then eP false (gX z.aA 0) else iL:=by rw[hF,hz6];rfl
 obtain⟨T,hT⟩:∃T:Nat->List (List D),T=fun i=>((l.map (vF false)).take i).map aR.enc:=⟨_,rfl⟩
 have hT0:T 0=[]:=by rw[hT];rfl
 have jY:∀i,(T i).length<=i:=fun i=>by rw[hT];simp only[List.length_map];exact List.length_take_le _ _
 have hTs:∀i (hi:i<l.length),T i++[(vF false l[i]).enc]=T (i+1):=fun i hi=>by
  have:=Ar (e:=aR.enc) (l:=l.map (vF false)) (i:=i) (by rw[List.length_map];exact hi);rw[List.getElem_map] at this;rw[hT];exact this
 have hTe:T l.length=F.bA.map aR.enc:=by
  rw[hT];simp only
  rw[List.take_of_length_le (by simp),hF,hl];rfl
 clear hT
 have jB:Hl x=false->Less (.eD [(true,Hq),(false,[.d (.b false)])]) (.eD [(true,(Ho x).cv),(false,[.d (.b (Hl x))])]):=fun e=>by
  rw[e];exact am2 _ (ajm e) false
 have c2:=oN _ (hgs 2);have c3:=mR (x.aA.getD 3 dh) (hgs 3);have c4:=FR _ (hgs 4);rw[<-f2] at c2;rw[<-f3] at c3;rw[<-f4] at c4;refine(show Hold ?T->_ from fun tail=> ?main) ?tp
 case' main=>
  refine zcx [.cell 2 45,.tmp 3] func242 ntmps242 ?_;simp -implicitDefEqProofs (disch:=omega) only[go_sem];refine aB (eT x 1 (by omega) (by omega)) ?_;simp -implicitDefEqProofs (disch:=omega) only[go_sem];refine aB (eT x 2 (by omega) (by omega)) ?_;simp -implicitDefEqProofs (disch:=omega) only[go_sem];refine aB c2 ?_;simp -implicitDefEqProofs (disch:=omega) only[go_sem];refine aB (eT x 3 (by omega) (by omega)) ?_;simp -implicitDefEqProofs (disch:=omega) only[go_sem];refine aB c3 ?_;simp -implicitDefEqProofs (disch:=omega) only[go_sem];refine aB (eT x 4 (by omega) (by omega)) ?_;simp -implicitDefEqProofs (disch:=omega) only[go_sem];refine aB c4 ?_;simp -implicitDefEqProofs (disch:=omega) only[go_sem];refine aB (eT x 5 (by omega) (by omega)) ?_;simp -implicitDefEqProofs (disch:=omega) only[go_sem]
  (repeat(with_reducible refine And.intro ?_ ?_;focus first|omega|rfl|assumption|exact⟨_,rfl,rfl⟩|(simp;omega)|(simp;done)))
  refine aB (eT x 6 (by omega) (by omega)) ?_;simp -implicitDefEqProofs (disch:=omega) only[go_sem];rw[<-hz6]
  with_reducible refine aC (fun hb=> ?_) (fun hb=> ?_)<;>have h:=hb<;>(try simp only[wf_preprocess] at h)<;>simp -implicitDefEqProofs (disch:=omega) only[go_sem,hb]<;>(repeat(with_reducible refine And.intro ?_ ?_;focus first|omega|rfl|assumption|exact⟨_,rfl,rfl⟩|(simp;omega)|(simp;done)))
  ·have hpos:0<z.aA.length:=by omega
   rw[if_pos hpos,abw hpos] at f7;have hz0:=alf z hpos;have c7:=mR z.aA[0] (by omega);rw[<-f7] at c7;have f6':F.fI=true:=f6.trans (decide_eq_true hpos)
   (repeat(with_reducible refine And.intro ?_ ?_;focus first|omega|rfl|assumption|exact⟨_,rfl,rfl⟩|(simp;omega)|(simp;done)))
   refine aB c7 ?_;simp -implicitDefEqProofs (disch:=omega) only[go_sem]
   (repeat(with_reducible refine And.intro ?_ ?_;focus first|omega|rfl|assumption|exact⟨_,rfl,rfl⟩|(simp;omega)|(simp;done)))
   refine aB (vB x 7 (by omega)) ?_;simp -implicitDefEqProofs (disch:=omega) only[go_sem];rw[<-hl,<-f1,<-f5];refine jr 2 11 11 _ rfl rfl ?_
   refine Bt (st':=[.box [.d (.s x.bH),.d (.sl (x.aA.map au.enc))],.box Hq,.box [.d (.s F.bW),.d (.sl (F.aU.map encS)),.d (.i .i64 F.dI.aV),.d (.s F.dI.fName),.d (.sl (F.dI.fArgs.map ay.enc)),.d (.sl (F.dV.map aS.enc)),.d (.b F.iP),.d (.b F.fI),.d (.i .i64 F.bX.aV),.d (.s F.bX.fName),.d (.sl (F.bX.fArgs.map ay.enc)),.bV (0,4) []],
    .box [.d (.s z.bH),.d (.sl (z.aA.map au.enc))],.tok 11 []]::S) [1,2,4,6,7] [.c (.ptr (0,0) 0),.c (.ptr (0,1) 0),.c (.ptr (0,2) 0),.c (.d (.sl (l.map au.enc))),.c (.d (.i .i64 0))] ?_ ?_ ?_
   ·rfl
   ·rw[f6'];rfl
   ·exact tail.out
  ·have hpos:¬0<z.aA.length:=by omega
   rw[if_neg hpos] at f7;have f6':F.fI=false:=f6.trans (decide_eq_false hpos);refine aB (vB x 7 (by omega)) ?_;simp -implicitDefEqProofs (disch:=omega) only[go_sem];rw[<-hl,<-f1,<-f5];refine XY 2 _ _ rfl (Ou (eO []) 10 _ rfl) ?_;refine jr 2 11 11 _ rfl rfl ?_
   refine Bt (st':=[.box [.d (.s x.bH),.d (.sl (x.aA.map au.enc))],.box Hq,.box [.d (.s F.bW),.d (.sl (F.aU.map encS)),.d (.i .i64 F.dI.aV),.d (.s F.dI.fName),.d (.sl (F.dI.fArgs.map ay.enc)),.d (.sl (F.dV.map aS.enc)),.d (.b F.iP),.d (.b F.fI),.d (.i .i64 F.bX.aV),.d (.s F.bX.fName),.d (.sl (F.bX.fArgs.map ay.enc)),.bV (0,4) []],
    .box [.d (.s z.bH),.d (.sl (z.aA.map au.enc))],.tok 11 []]::S) [1,2,4,6,7] [.c (.ptr (0,0) 0),.c (.ptr (0,1) 0),.c (.ptr (0,2) 0),.c (.d (.sl (l.map au.enc))),.c (.d (.i .i64 0))] ?_ ?_ ?_
   ·rfl
   ·rw[f6',f7];rfl
   ·exact tail.out
 refine⟨?_⟩
 refine bN (ι:=Nat) zmx rfl [1,2,4,6,7] (fun i=>[.c (.ptr (0,0) 0),.c (.ptr (0,1) 0),.c (.ptr (0,2) 0),.c (.d (.sl (l.map au.enc))),.c (.d (.i .i64 i))])
  (fun i=>[.box [.d (.s x.bH),.d (.sl (x.aA.map au.enc))],.box Hq,.box [.d (.s F.bW),.d (.sl (F.aU.map encS)),.d (.i .i64 F.dI.aV),.d (.s F.dI.fName),.d (.sl (F.dI.fArgs.map ay.enc)),.d (.sl (F.dV.map aS.enc)),.d (.b F.iP),.d (.b F.fI),.d (.i .i64 F.bX.aV),.d (.s F.bX.fName),.d (.sl (F.bX.fArgs.map ay.enc)),.bV (0,4) (T i)],
    .box [.d (.s z.bH),.d (.sl (z.aA.map au.enc))],.tok 11 (T i)]::S)
  (fun i=>i<=l.length) (fun i=>l.length-i) 0 rfl (by rw[hT0]) (Nat.zero_le _) ?_
 intro i hi;have hl':=jY i;simp -implicitDefEqProofs (disch:=omega) only[go_sem]
 with_reducible refine aC (fun hb=> ?_) (fun hb=> ?_)<;>have h:=hb<;>(try simp only[wf_preprocess] at h)<;>simp -implicitDefEqProofs (disch:=omega) only[go_sem,hb]<;>(repeat(with_reducible refine And.intro ?_ ?_;focus first|omega|rfl|assumption|exact⟨_,rfl,rfl⟩|(simp;omega)|(simp;done)))
 ·have hi':i<l.length:=by omega
  have hz:=hlm _ (List.getElem_mem hi');have hs:=hTs i hi';have hg:=fun k=>uH l[i] k hz;rw[afb (b:=false) (.inl rfl)] at hs;simp only[aR.aj,aD.aj,ay.aj,List.cons_append,List.nil_append] at hs
  (repeat(with_reducible refine And.intro ?_ ?_;focus first|omega|rfl|assumption|exact⟨_,rfl,rfl⟩|(simp;omega)|(simp;done)))
  refine aB (eT l[i] 0 hz (by omega)) ?_;simp -implicitDefEqProofs (disch:=omega) only[go_sem]
  (repeat(with_reducible refine And.intro ?_ ?_;focus first|omega|rfl|assumption|exact⟨_,rfl,rfl⟩|(simp;omega)|(simp;done)))
  refine aB (eT l[i] 1 hz (by omega)) ?_;simp -implicitDefEqProofs (disch:=omega) only[go_sem];refine aB (oN _ (hg 1)) ?_;simp -implicitDefEqProofs (disch:=omega) only[go_sem]
  (repeat(with_reducible refine And.intro ?_ ?_;focus first|omega|rfl|assumption|exact⟨_,rfl,rfl⟩|(simp;omega)|(simp;done)))
  refine aB (eT l[i] 2 hz (by omega)) ?_;simp -implicitDefEqProofs (disch:=omega) only[go_sem];refine aB (Dj (l[i].aA.getD 2 dh) (hg 2)) ?_;simp -implicitDefEqProofs (disch:=omega) only[go_sem]
  (repeat(with_reducible refine And.intro ?_ ?_;focus first|omega|rfl|assumption|exact⟨_,rfl,rfl⟩|(simp;omega)|(simp;done)))
  rw[hs];exact fu 5 (by decide) (i+1) (by omega) rfl rfl rfl rfl (by omega)
 ·have hi':i=l.length:=by omega
  subst hi';rw[hTe];clear hTs;refine aB (lS x (by omega)) ?_;simp -implicitDefEqProofs (disch:=omega) only[go_sem]
  with_reducible refine aC (fun hb=> ?_) (fun hb=> ?_)<;>have h:=hb<;>(try simp only[wf_preprocess] at h)<;>simp -implicitDefEqProofs (disch:=omega) only[go_sem,hb]<;>(repeat(with_reducible refine And.intro ?_ ?_;focus first|omega|rfl|assumption|exact⟨_,rfl,rfl⟩|(simp;omega)|(simp;done)))
  ·exact jB (bJ fun e=>by rw[e.1] at h;cases h)
  have hv:=h
  with_reducible refine aC (fun hb=> ?_) (fun hb=> ?_)<;>have h:=hb<;>(try simp only[wf_preprocess] at h)<;>simp -implicitDefEqProofs (disch:=omega) only[go_sem,hb]<;>(repeat(with_reducible refine And.intro ?_ ?_;focus first|omega|rfl|assumption|exact⟨_,rfl,rfl⟩|(simp;omega)|(simp;done)))
  ·exact jB (bJ fun e=>by omega)
  have hne:x.aA≠[]:=fun e=>by rw[e] at h;exact h rfl
  have hok:=ae8 hne;rw[hv,Bool.true_and] at hok;rw[<-hF] at hok hos hds
  (repeat(with_reducible refine And.intro ?_ ?_;focus first|omega|rfl|assumption|exact⟨_,rfl,rfl⟩|(simp;omega)|(simp;done)))
  refine aB (ae6 F (by omega)) ?_;simp -implicitDefEqProofs (disch:=omega) only[go_sem];refine aB (qC (SE F) x (by omega)) ?_;simp -implicitDefEqProofs (disch:=omega) only[go_sem]
  with_reducible refine aC (fun hb=> ?_) (fun hb=> ?_)<;>have h:=hb<;>(try simp only[wf_preprocess] at h)<;>simp -implicitDefEqProofs (disch:=omega) only[go_sem,hb]<;>(repeat(with_reducible refine And.intro ?_ ?_;focus first|omega|rfl|assumption|exact⟨_,rfl,rfl⟩|(simp;omega)|(simp;done)))
  ·exact jB (by rw[hok];exact bJ h)
  ·have hy:Hl x=true:=by rw[hok];exact dD h
   rw[ahF hy,hy,<-ae9 hy,<-hF];exact jv _
end Go.Ab