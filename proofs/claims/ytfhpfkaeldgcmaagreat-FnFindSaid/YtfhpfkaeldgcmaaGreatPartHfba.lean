/-
  SEVERAL TEXTS IN ONE (merged by program): contracts and models, each with its own heading.
-/
import Derived.Test.YtfhpfkaeldgcmaaGreatPartHfbY
import Derived.Test.YtfhpfkaeldgcmaaGreatPartHfbZ
open Go.Proofs Go.Proofs.Tryz
set_option linter.unusedSimpArgs false
set_option linter.unusedVariables false
set_option maxRecDepth 4000
namespace Go.Ab
def vE(b:Bool)(y:au):aT:=if b=true/\y.aA.length≠3 then⟨[],[],ni⟩ else⟨dM y.aA 0,mF y.aA 1,fA b (gX y.aA 2)⟩
def zG(b:Bool)(x:au):aP:=
 ⟨dM x.aA 1,mF x.aA 2,eT b (gX x.aA 3),(gX x.aA 4).aA.map (qP b),decide (0<(gX x.aA 5).aA.length),decide (0<(gX x.aA 6).aA.length),
   if 0<(gX x.aA 6).aA.length then eT b (gX (gX x.aA 6).aA 0) else iN,(x.aA.drop 7).map (vE b)⟩
theorem abd{vars:List (List UInt8)}{e:aC}(h:nH vars e=true):∀v∈vars,v≠[]:=by
 unfold nH at h;rw[Bool.and_eq_true] at h;exact yA h.1
theorem aeI(b:Bool){m:aT}(h:nH m.aS m.fBody=true):vE b (oL m)=m:=by
 unfold vE;rw[if_neg (by simp[oL,iy])];show aT.mk m.fName (gy (dn m.aS)) (fA b (fQ m.fBody))=m;rw[mZ (abd h),DT b _ (Cb h)]
theorem inst_more{x:aP}(h:gK x=true):(∀v∈x.aS,v≠[])/\(x.fM=false->x.bW=iN)/\(∀m∈x.bC,nH m.aS m.fBody=true):=by
 unfold gK BD at h;simp only[Bool.and_eq_true] at h;obtain⟨⟨_,_,h0,h1,_,_,_,h2,h3,_⟩,h4,_⟩:=h;refine⟨yA h0,fun ha=> ?_,fun m hm=> ?_⟩
 ·rw[if_neg (by rw[ha];decide)] at h3;exact oW (gP h3)
 ·have h5:=List.all_eq_true.1 h4 m hm;unfold sJ at h5;simp only[Bool.and_eq_true] at h5;exact h5.2.2
theorem Nl(b:Bool){x:aP}(h:gK x=true):zG b (xM x)=x:=by
 obtain⟨h1,h2,h3,h4⟩:=nC h;obtain⟨g1,g2,g3⟩:=inst_more h;show aP.mk x.bU (gy (dn x.aS)) (eT b (dR x.dL)) ((x.dS.map w9).map (qP b)) (decide (0<(dn (oK x)).length)) (decide (0<(nK x).length)) (if 0<(nK x).length then eT b (gX (nK x) 0) else iN) ((x.bC.map oL).map (vE b))=x;rw[mZ g1,uS b _ h1,BA fun c hc=>Vr b (h2 c hc),BA fun c hc=>aeI b (g3 c hc),kZ]
 have e1:decide (0<(oK x).length)=x.iR:=by unfold oK;cases x.iR<;>rfl
 rw[e1];unfold nK
 cases ha:x.fM with
 |true=>
  rw[if_pos rfl];show aP.mk _ _ _ _ _ true (eT b (dR x.bW)) _=x;rw[uS b _ (h3 ha),<-ha]
 |false=>
  rw[if_neg (by decide)];show aP.mk _ _ _ _ _ false iN _=x;rw[<-g2 ha,<-ha]
noncomputable def GQ(x:au):Bool:=dec (iU x=true/\(7<=x.aA.length/\dM x.aA 0=tO)/\gK (zG true x)=true/\xM (zG true x)=x)
theorem aeJ{x:au}(hx:x.aA≠[]):GQ x=(iU x&&dec (Sr (zG false x)=x)):=
 Sl hx (fun a h1 h2=>by rw[<-h2];exact⟨Nl true h1,Nl false h1⟩) fun a h=>by rw[<-h];exact⟨by rw[xM,iy];simp[nR],rfl⟩
theorem aeK{x:au}(h:GQ x=true):zG false x=zG true x:=by
 have h1:=gP h
 conv=>lhs;rw[<-h1.2.2.2]
 exact Nl false h1.2.2.1
def LU:aP:=⟨[],[],iN,[],false,false,iN,[]⟩
noncomputable def GR(x:au):aP:=if GQ x=true then zG true x else LU
theorem aeL(b:Bool)(y:au):(vE b y).sz<=y.sz:=by
 have h1:=Bz y.aA;have h2:=nk y;have h3:=nk (gX y.aA 0);have h4:=nW (gX y.aA 1).aA;have h4':=nk (gX y.aA 1);have h5:=Ap b (gX y.aA 2);unfold vE;split
 ·simp only[aT.sz,aT.aj,bD,aY,D.sz,aC.bY,wD,List.map_nil,aN,List.length_nil];omega
 ·simp only[aT.sz,aT.aj,bD,aY,D.sz,aC.bY,List.length_map,mF,eB,Cn];omega
theorem OE(b:Bool):∀l:List au,aN ((l.map (vE b)).map aT.enc)<=dK l
 |[]=>by simp[aN]
 |y::l=>by
  have h1:=aeL b y;have h2:=OE b l;rw[List.map_cons,List.map_cons,aN,dK];simp only[aT.sz] at h1;omega
theorem Vt(b:Bool)(x:au):(zG b x).sz<=x.sz:=by
 have h1:=zn x.aA;have h2:=nk x;have h3:=nk (gX x.aA 1);have h4:=nW (gX x.aA 2).aA;have h4':=nk (gX x.aA 2);have h5:=wC b (gX x.aA 3);have h6:=JW b (gX x.aA 4).aA;have h6':=nk (gX x.aA 4)
 have h7:(if 0<(gX x.aA 6).aA.length then eT b (gX (gX x.aA 6).aA 0) else iN).sz<=(gX x.aA 6).sz:=by
  have a1:=nk (gX x.aA 6);have a2:=Bz (gX x.aA 6).aA;have a3:=wC b (gX (gX x.aA 6).aA 0);split
  ·omega
  ·rw[zl];omega
 have h8:=OE b (x.aA.drop 7);generalize hz:(if 0<(gX x.aA 6).aA.length then eT b (gX (gX x.aA 6).aA 0) else iN)=z at h7;simp only[aP.sz,aP.aj,bD,aY,D.sz,ay.bY,zG,hz,List.length_map,List.length_drop,mF,eB,Cn];omega
def lMe(l:List aT)(n:Nat):List (List D):=eU (l.map aT.enc) n
abbrev aP.cl(x:aP)(n p q r:Nat):List C:=[.d (.s x.bU),.d (.ol n (x.aS.map encS)),.d (.i .i64 x.dL.aV),.d (.s x.dL.fName),.d (.ol (n+1) (lt x.dL.fArgs (n+1+1))),.d (.ol p (lB x.dS (p+1))),.d (.b x.iR),.d (.b x.fM),
 .d (.i .i64 x.bW.aV),.d (.s x.bW.fName),.d (.ol q (lt x.bW.fArgs (q+1))),.d (.ol r (lMe x.bC (r+1)))]
abbrev aP.cv(x:aP):List C:=[.d (.s x.bU),.d (.sl (x.aS.map encS)),.d (.i .i64 x.dL.aV),.d (.s x.dL.fName),.d (.sl (x.dL.fArgs.map ay.enc)),.d (.sl (x.dS.map aU.enc)),.d (.b x.iR),.d (.b x.fM),
 .d (.i .i64 x.bW.aV),.d (.s x.bW.fName),.d (.sl (x.bW.fArgs.map ay.enc)),.d (.sl (x.bC.map aT.enc))]
theorem aiZ{x:au}(h:GQ x=false):GR x=LU:=if_neg (by rw[h];decide)
theorem ahh{x:au}(h:GQ x=true):GR x=zG true x:=if_pos h
abbrev GU:List C:=[.d (.s []),.bI [],.d (.i .i64 0),.d (.s []),.bI [],.bI [],.d (.b false),.d (.b false),.d (.i .i64 0),.d (.s []),.bI [],.bI []]
theorem amN(e:aP)(h:e=LU)(ok:Bool):Less (.eu [(true,GU),(false,[.d (.b ok)])]) (.eu [(true,e.cv),(false,[.d (.b ok)])]):=by
 rw[h];exact(jZ.cons (.cons (.refl _) (.cons (eO _) (.cons (.refl _) (.cons (.refl _) (.cons (eO _) (.cons (eO _) (.cons (.refl _) (.cons (.refl _) (.cons (.refl _) (.cons (.refl _) (.cons (eO _) (.cons (eO _) .nil)))))))))))) (.refl _)).less
theorem aeM{b:Bool}{y:au}(h:b=false\/y.aA.length=3):vE b y=⟨(y.aA.getD 0 dz).bK,gy (y.aA.getD 1 dz).aA,fA b (y.aA.getD 2 dz)⟩:=by
 unfold vE;rw[if_neg (by rintro⟨e1,e2⟩;rcases h with e|e;(rw[e] at e1;cases e1);exact e2 e)];rfl
theorem Uz(x:au)(hsz:x.sz<=1048576):bg prog 242 [x.v] (.eu [(true,(GR x).cv),(false,[.d (.b (GQ x))])]):=bg.of_le fun S=>by
 have h1:=gV x;have hds:=Vt false x;have hos:=ahf (x:=zG false x) (by omega);have hgs:=fun i=>uK x i (m:=4194304) (by omega);obtain⟨l,hl⟩:∃l,l=x.aA.drop 7:=⟨_,rfl⟩
 have hll:l.length<=4194304:=by rw[hl,List.length_drop];omega
 have hlm:∀y∈l,y.sz<=4194304:=fun y hy=>by have:=kY (List.mem_of_mem_drop (hl▸hy));omega
 obtain⟨F,hF⟩:∃F,F=zG false x:=⟨_,rfl⟩;obtain⟨z,hz6⟩:∃z,z=x.aA.getD 6 dz:=⟨_,rfl⟩;have hzz:=hgs 6;rw[<-hz6] at hzz
 have f1:F.bU=(x.aA.getD 1 dz).bK:=by rw[hF];rfl
 have f2:F.aS=gy (x.aA.getD 2 dz).aA:=by rw[hF];rfl
 have f3:F.dL=eT false (x.aA.getD 3 dz):=by rw[hF];rfl
 have f4:F.dS=(x.aA.getD 4 dz).aA.map (qP false):=by rw[hF];rfl
 have f5:F.iR=decide ((0:Int)<((x.aA.getD 5 dz).aA.length:Int)):=by rw[hF];show decide (0<(x.aA.getD 5 dz).aA.length)=_;exact decide_eq_decide.2 (by omega)
 have f6:F.fM=decide (0<z.aA.length):=by rw[hF,hz6];rfl
 have f7:F.bW=if 0<z.aA.length then eT false (gX z.aA 0) else iN:=by rw[hF,hz6];rfl
 obtain⟨T,hT⟩:∃T:Nat->List (List D),T=fun i=>((l.map (vE false)).take i).map aT.enc:=⟨_,rfl⟩
 have hT0:T 0=[]:=by rw[hT];rfl
 have iG:∀i,(T i).length<=i:=fun i=>by rw[hT];simp only[List.length_map];exact List.length_take_le _ _
 have hTs:∀i (hi:i<l.length),T i++[(vE false l[i]).enc]=T (i+1):=fun i hi=>by
  have:=Ag (e:=aT.enc) (l:=l.map (vE false)) (i:=i) (by rw[List.length_map];exact hi);rw[List.getElem_map] at this;rw[hT];exact this
 have hTe:T l.length=F.bC.map aT.enc:=by
  rw[hT];simp only
  rw[List.take_of_length_le (by simp),hF,hl];rfl
 clear hT
 have jK:GQ x=false->Less (.eu [(true,GU),(false,[.d (.b false)])]) (.eu [(true,(GR x).cv),(false,[.d (.b (GQ x))])]):=fun e=>by
  rw[e];exact amN _ (aiZ e) false
 have c2:=oI _ (hgs 2);have c3:=ng (x.aA.getD 3 dz) (hgs 3);have c4:=Fx _ (hgs 4);rw[<-f2] at c2;rw[<-f3] at c3;rw[<-f4] at c4;refine(show Hold ?T->_ from fun tail=> ?main) ?tp
 case' main=>
  refine zcx [.cell 2 45,.tmp 3] func242 ntmps242 ?_;simp -implicitDefEqProofs (disch:=omega) only[go_sem];refine aB (eX x 1 (by omega) (by omega)) ?_;simp -implicitDefEqProofs (disch:=omega) only[go_sem];refine aB (eX x 2 (by omega) (by omega)) ?_;simp -implicitDefEqProofs (disch:=omega) only[go_sem];refine aB c2 ?_;simp -implicitDefEqProofs (disch:=omega) only[go_sem];refine aB (eX x 3 (by omega) (by omega)) ?_;simp -implicitDefEqProofs (disch:=omega) only[go_sem];refine aB c3 ?_;simp -implicitDefEqProofs (disch:=omega) only[go_sem];refine aB (eX x 4 (by omega) (by omega)) ?_;simp -implicitDefEqProofs (disch:=omega) only[go_sem];refine aB c4 ?_;simp -implicitDefEqProofs (disch:=omega) only[go_sem];refine aB (eX x 5 (by omega) (by omega)) ?_;simp -implicitDefEqProofs (disch:=omega) only[go_sem]
  (repeat(with_reducible refine And.intro ?_ ?_;focus first|omega|rfl|assumption|exact⟨_,rfl,rfl⟩|(simp;omega)|(simp;done)))
  refine aB (eX x 6 (by omega) (by omega)) ?_;simp -implicitDefEqProofs (disch:=omega) only[go_sem];rw[<-hz6]
  with_reducible refine aD (fun hb=> ?_) (fun hb=> ?_)<;>have h:=hb<;>(try simp only[wf_preprocess] at h)<;>simp -implicitDefEqProofs (disch:=omega) only[go_sem,hb]<;>(repeat(with_reducible refine And.intro ?_ ?_;focus first|omega|rfl|assumption|exact⟨_,rfl,rfl⟩|(simp;omega)|(simp;done)))
  ·have hpos:0<z.aA.length:=by omega
   rw[if_pos hpos,aa7 hpos] at f7;have hz0:=akV z hpos;have c7:=ng z.aA[0] (by omega);rw[<-f7] at c7;have f6':F.fM=true:=f6.trans (decide_eq_true hpos)
   (repeat(with_reducible refine And.intro ?_ ?_;focus first|omega|rfl|assumption|exact⟨_,rfl,rfl⟩|(simp;omega)|(simp;done)))
   refine aB c7 ?_;simp -implicitDefEqProofs (disch:=omega) only[go_sem]
   (repeat(with_reducible refine And.intro ?_ ?_;focus first|omega|rfl|assumption|exact⟨_,rfl,rfl⟩|(simp;omega)|(simp;done)))
   refine aB (vw x 7 (by omega)) ?_;simp -implicitDefEqProofs (disch:=omega) only[go_sem];rw[<-hl,<-f1,<-f5];refine jD 2 11 11 _ rfl rfl ?_
   refine Bd (st':=[.box [.d (.s x.bK),.d (.sl (x.aA.map au.enc))],.box GU,.box [.d (.s F.bU),.d (.sl (F.aS.map encS)),.d (.i .i64 F.dL.aV),.d (.s F.dL.fName),.d (.sl (F.dL.fArgs.map ay.enc)),.d (.sl (F.dS.map aU.enc)),.d (.b F.iR),.d (.b F.fM),.d (.i .i64 F.bW.aV),.d (.s F.bW.fName),.d (.sl (F.bW.fArgs.map ay.enc)),.bS (0,4) []],
    .box [.d (.s z.bK),.d (.sl (z.aA.map au.enc))],.tok 11 []]::S) [1,2,4,6,7] [.c (.ptr (0,0) 0),.c (.ptr (0,1) 0),.c (.ptr (0,2) 0),.c (.d (.sl (l.map au.enc))),.c (.d (.i .i64 0))] ?_ ?_ ?_
   ·rfl
   ·rw[f6'];rfl
   ·exact tail.out
  ·have hpos:¬0<z.aA.length:=by omega
   rw[if_neg hpos] at f7;have f6':F.fM=false:=f6.trans (decide_eq_false hpos);refine aB (vw x 7 (by omega)) ?_;simp -implicitDefEqProofs (disch:=omega) only[go_sem];rw[<-hl,<-f1,<-f5];refine XH 2 _ _ rfl (Og (eO []) 10 _ rfl) ?_;refine jD 2 11 11 _ rfl rfl ?_
   refine Bd (st':=[.box [.d (.s x.bK),.d (.sl (x.aA.map au.enc))],.box GU,.box [.d (.s F.bU),.d (.sl (F.aS.map encS)),.d (.i .i64 F.dL.aV),.d (.s F.dL.fName),.d (.sl (F.dL.fArgs.map ay.enc)),.d (.sl (F.dS.map aU.enc)),.d (.b F.iR),.d (.b F.fM),.d (.i .i64 F.bW.aV),.d (.s F.bW.fName),.d (.sl (F.bW.fArgs.map ay.enc)),.bS (0,4) []],
    .box [.d (.s z.bK),.d (.sl (z.aA.map au.enc))],.tok 11 []]::S) [1,2,4,6,7] [.c (.ptr (0,0) 0),.c (.ptr (0,1) 0),.c (.ptr (0,2) 0),.c (.d (.sl (l.map au.enc))),.c (.d (.i .i64 0))] ?_ ?_ ?_
   ·rfl
   ·rw[f6',f7];rfl
   ·exact tail.out
 refine⟨?_⟩
 refine bO (ι:=Nat) zmx rfl [1,2,4,6,7] (fun i=>[.c (.ptr (0,0) 0),.c (.ptr (0,1) 0),.c (.ptr (0,2) 0),.c (.d (.sl (l.map au.enc))),.c (.d (.i .i64 i))])
  (fun i=>[.box [.d (.s x.bK),.d (.sl (x.aA.map au.enc))],.box GU,.box [.d (.s F.bU),.d (.sl (F.aS.map encS)),.d (.i .i64 F.dL.aV),.d (.s F.dL.fName),.d (.sl (F.dL.fArgs.map ay.enc)),.d (.sl (F.dS.map aU.enc)),.d (.b F.iR),.d (.b F.fM),.d (.i .i64 F.bW.aV),.d (.s F.bW.fName),.d (.sl (F.bW.fArgs.map ay.enc)),.bS (0,4) (T i)],
    .box [.d (.s z.bK),.d (.sl (z.aA.map au.enc))],.tok 11 (T i)]::S)
  (fun i=>i<=l.length) (fun i=>l.length-i) 0 rfl (by rw[hT0]) (Nat.zero_le _) ?_
 intro i hi;have hl':=iG i;simp -implicitDefEqProofs (disch:=omega) only[go_sem]
 with_reducible refine aD (fun hb=> ?_) (fun hb=> ?_)<;>have h:=hb<;>(try simp only[wf_preprocess] at h)<;>simp -implicitDefEqProofs (disch:=omega) only[go_sem,hb]<;>(repeat(with_reducible refine And.intro ?_ ?_;focus first|omega|rfl|assumption|exact⟨_,rfl,rfl⟩|(simp;omega)|(simp;done)))
 ·have hi':i<l.length:=by omega
  have hz:=hlm _ (List.getElem_mem hi');have hs:=hTs i hi';have hg:=fun k=>uK l[i] k hz;rw[aeM (b:=false) (.inl rfl)] at hs;simp only[aT.aj,aC.aj,ay.aj,List.cons_append,List.nil_append] at hs
  (repeat(with_reducible refine And.intro ?_ ?_;focus first|omega|rfl|assumption|exact⟨_,rfl,rfl⟩|(simp;omega)|(simp;done)))
  refine aB (eX l[i] 0 hz (by omega)) ?_;simp -implicitDefEqProofs (disch:=omega) only[go_sem]
  (repeat(with_reducible refine And.intro ?_ ?_;focus first|omega|rfl|assumption|exact⟨_,rfl,rfl⟩|(simp;omega)|(simp;done)))
  refine aB (eX l[i] 1 hz (by omega)) ?_;simp -implicitDefEqProofs (disch:=omega) only[go_sem];refine aB (oI _ (hg 1)) ?_;simp -implicitDefEqProofs (disch:=omega) only[go_sem]
  (repeat(with_reducible refine And.intro ?_ ?_;focus first|omega|rfl|assumption|exact⟨_,rfl,rfl⟩|(simp;omega)|(simp;done)))
  refine aB (eX l[i] 2 hz (by omega)) ?_;simp -implicitDefEqProofs (disch:=omega) only[go_sem];refine aB (CZ (l[i].aA.getD 2 dz) (hg 2)) ?_;simp -implicitDefEqProofs (disch:=omega) only[go_sem]
  (repeat(with_reducible refine And.intro ?_ ?_;focus first|omega|rfl|assumption|exact⟨_,rfl,rfl⟩|(simp;omega)|(simp;done)))
  rw[hs];exact dZ 5 (by decide) (i+1) (by omega) rfl rfl rfl rfl (by omega)
 ·have hi':i=l.length:=by omega
  subst hi';rw[hTe];clear hTs;refine aB (lU x (by omega)) ?_;simp -implicitDefEqProofs (disch:=omega) only[go_sem]
  with_reducible refine aD (fun hb=> ?_) (fun hb=> ?_)<;>have h:=hb<;>(try simp only[wf_preprocess] at h)<;>simp -implicitDefEqProofs (disch:=omega) only[go_sem,hb]<;>(repeat(with_reducible refine And.intro ?_ ?_;focus first|omega|rfl|assumption|exact⟨_,rfl,rfl⟩|(simp;omega)|(simp;done)))
  ·exact jK (bM fun e=>by rw[e.1] at h;cases h)
  have hv:=h
  with_reducible refine aD (fun hb=> ?_) (fun hb=> ?_)<;>have h:=hb<;>(try simp only[wf_preprocess] at h)<;>simp -implicitDefEqProofs (disch:=omega) only[go_sem,hb]<;>(repeat(with_reducible refine And.intro ?_ ?_;focus first|omega|rfl|assumption|exact⟨_,rfl,rfl⟩|(simp;omega)|(simp;done)))
  ·exact jK (bM fun e=>by omega)
  have hne:x.aA≠[]:=fun e=>by rw[e] at h;exact h rfl
  have hok:=aeJ hne;rw[hv,Bool.true_and] at hok;rw[<-hF] at hok hos hds
  (repeat(with_reducible refine And.intro ?_ ?_;focus first|omega|rfl|assumption|exact⟨_,rfl,rfl⟩|(simp;omega)|(simp;done)))
  refine aB (aeH F (by omega)) ?_;simp -implicitDefEqProofs (disch:=omega) only[go_sem];refine aB (qA (Sr F) x (by omega)) ?_;simp -implicitDefEqProofs (disch:=omega) only[go_sem]
  with_reducible refine aD (fun hb=> ?_) (fun hb=> ?_)<;>have h:=hb<;>(try simp only[wf_preprocess] at h)<;>simp -implicitDefEqProofs (disch:=omega) only[go_sem,hb]<;>(repeat(with_reducible refine And.intro ?_ ?_;focus first|omega|rfl|assumption|exact⟨_,rfl,rfl⟩|(simp;omega)|(simp;done)))
  ·exact jK (by rw[hok];exact bM h)
  ·have hy:GQ x=true:=by rw[hok];exact dH h
   rw[ahh hy,hy,<-aeK hy,<-hF];exact jE _
end Go.Ab