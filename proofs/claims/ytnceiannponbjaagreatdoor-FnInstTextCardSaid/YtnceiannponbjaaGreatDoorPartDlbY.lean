/-
  SEVERAL TEXTS IN ONE (merged by program): contracts and models, each with its own heading.
-/
import Derived.Test.YtnceiannponbjaaGreatDoorPartDlbT
import Derived.Test.YtnceiannponbjaaGreatDoorPartDlbX
set_option maxHeartbeats 8000000
open Go.Proofs Go.Proofs.Tryz
set_option linter.unusedSimpArgs false
set_option linter.unusedVariables false
set_option maxRecDepth 4000
namespace Go.Ab
def oQ(b:Bool)(y:ah):aN:=if b=true/\y.aj.length≠3 then⟨[],[],qX⟩ else⟨dA y.aj 0,GA y.aj 1,dU b (gX y.aj 2)⟩
def xw(b:Bool)(x:ah):aH:=
 ⟨dA x.aj 1,GA x.aj 2,eB b (gX x.aj 3),(gX x.aj 4).aj.map (ni b),decide (0<(gX x.aj 5).aj.length),decide (0<(gX x.aj 6).aj.length),
   if 0<(gX x.aj 6).aj.length then eB b (gX (gX x.aj 6).aj 0) else ig,(x.aj.drop 7).map (oQ b)⟩
theorem aah{vars:List (List UInt8)}{e:aC}(h:oO vars e=true):∀v∈vars,v≠[]:=by
 unfold oO at h;rw[Bool.and_eq_true] at h;exact L6 h.1
theorem adl(b:Bool){m:aN}(h:oO m.aK m.fBody=true):oQ b (lT m)=m:=by
 unfold oQ;rw[if_neg (by simp[lT,dP])];show aN.mk m.fName (jr (aR m.aK)) (dU b (dX m.fBody))=m;rw[Ar (aah h),L8 b _ (M8 h)]
theorem inst_more{x:aH}(h:eO x=true):(∀v∈x.aK,v≠[])/\(x.dn=false->x.bC=ig)/\(∀m∈x.aF,oO m.aK m.fBody=true):=by
 unfold eO qW at h;simp only[Bool.and_eq_true] at h;obtain⟨⟨_,_,h0,h1,_,_,_,h2,h3,_⟩,h4,_⟩:=h;refine⟨L6 h0,fun ha=> ?_,fun m hm=> ?_⟩
 ·rw[if_neg (by rw[ha];decide)] at h3;exact oq (gF h3)
 ·have h5:=List.all_eq_true.1 h4 m hm;unfold jW at h5;simp only[Bool.and_eq_true] at h5;exact h5.2.2
theorem CP(b:Bool){x:aH}(h:eO x=true):xw b (qg x)=x:=by
 obtain⟨h1,h2,h3,h4⟩:=lH h;obtain⟨g1,g2,g3⟩:=inst_more h;show aH.mk x.bg (jr (aR x.aK)) (eB b (dK x.bA)) ((x.bR.map oh).map (ni b)) (decide (0<(aR (iP x)).length)) (decide (0<(iQ x).length)) (if 0<(iQ x).length then eB b (gX (iQ x) 0) else ig) ((x.aF.map lT).map (oQ b))=x;rw[Ar g1,CO b _ h1,Rs fun c hc=>aft b (h2 c hc),Rs fun c hc=>adl b (g3 c hc),kL]
 have e1:decide (0<(iP x).length)=x.fq:=by unfold iP;cases x.fq<;>rfl
 rw[e1];unfold iQ
 cases ha:x.dn with
 |true=>
  rw[if_pos rfl];show aH.mk _ _ _ _ _ true (eB b (dK x.bC)) _=x;rw[CO b _ (h3 ha),<-ha]
 |false=>
  rw[if_neg (by decide)];show aH.mk _ _ _ _ _ false ig _=x;rw[<-g2 ha,<-ha]
noncomputable def qz(x:ah):Bool:=dec (iE x=true/\(7<=x.aj.length/\dA x.aj 0=tO)/\eO (xw true x)=true/\qg (xw true x)=x)
theorem adn{x:ah}(hx:x.aj≠[]):qz x=(iE x&&dec (kI (xw false x)=x)):=
 agZ hx (fun a h1 h2=>by rw[<-h2];exact⟨CP true h1,CP false h1⟩) fun a h=>by rw[<-h];exact⟨by rw[qg,dP];simp[kg],rfl⟩
theorem ado{x:ah}(h:qz x=true):xw false x=xw true x:=by
 have h1:=gF h
 conv=>lhs;rw[<-h1.2.2.2]
 exact CP false h1.2.2.1
def GH:aH:=⟨[],[],ig,[],false,false,ig,[]⟩
noncomputable def kP(x:ah):aH:=if qz x=true then xw true x else GH
theorem adp(b:Bool)(y:ah):(oQ b y).sz<=y.sz:=by
 have h1:=I4 y.aj;have h2:=BO y;have h3:=BO (gX y.aj 0);have h4:=FJ (gX y.aj 1).aj;have h4':=BO (gX y.aj 1);have h5:=Gy b (gX y.aj 2);unfold oQ;split
 ·simp only[aN.sz,aN.aB,bL,bZ,D.sz,aC.dz,Bn,List.map_nil,bB,List.length_nil];omega
 ·simp only[aN.sz,aN.aB,bL,bZ,D.sz,aC.dz,List.length_map,GA,gL,Xy];omega
theorem Nw(b:Bool):∀l:List ah,bB ((l.map (oQ b)).map aN.enc)<=dJ l
 |[]=>by simp[bB]
 |y::l=>by
  have h1:=adp b y;have h2:=Nw b l;rw[List.map_cons,List.map_cons,bB,dJ];simp only[aN.sz] at h1;omega
theorem Mc(b:Bool)(x:ah):(xw b x).sz<=x.sz:=by
 have h1:=FX x.aj;have h2:=BO x;have h3:=BO (gX x.aj 1);have h4:=FJ (gX x.aj 2).aj;have h4':=BO (gX x.aj 2);have h5:=CJ b (gX x.aj 3);have h6:=Rt b (gX x.aj 4).aj;have h6':=BO (gX x.aj 4)
 have h7:(if 0<(gX x.aj 6).aj.length then eB b (gX (gX x.aj 6).aj 0) else ig).sz<=(gX x.aj 6).sz:=by
  have a1:=BO (gX x.aj 6);have a2:=I4 (gX x.aj 6).aj;have a3:=CJ b (gX (gX x.aj 6).aj 0);split
  ·omega
  ·rw[Aw];omega
 have h8:=Nw b (x.aj.drop 7);generalize hz:(if 0<(gX x.aj 6).aj.length then eB b (gX (gX x.aj 6).aj 0) else ig)=z at h7;simp only[aH.sz,aH.aB,bL,bZ,D.sz,au.dz,xw,hz,List.length_map,List.length_drop,GA,gL,Xy];omega
theorem adq:GH.sz=0:=by
 simp only[GH,aH.sz,aH.aB,bL,bZ,D.sz,au.dz,Aw,List.map_nil,bB,List.length_nil]
theorem aai{x:ah}(h:x.sz<=1048576):(kP x).sz<=1048576:=by
 have:=Mc true x;unfold kP;split
 ·omega
 ·rw[adq];omega
theorem Ru(x:aN)(n:Nat):dW x.enc n=[.s x.fName,.ol n (x.aK.map encS),.i .i64 x.fBody.aI,.s x.fBody.bg,.s x.fBody.fName,.i .i64 x.fBody.fN,.i .i64 x.fBody.fType.aI,.s x.fBody.fType.fName,.ol (n+1) (lt x.fBody.fType.fArgs (n+1+1)),
 .ol (n+1+(gK x.fBody.fType.fArgs+1)) (lE x.fBody.fArgs (n+1+(gK x.fBody.fType.fArgs+1)+1)),.ol (n+1+(gK x.fBody.fType.fArgs+1)+(mZ x.fBody.fArgs+1)) (lM x.fBody.aO (n+1+(gK x.fBody.fType.fArgs+1)+(mZ x.fBody.fArgs+1)+1))]:=by
 simp only[aN.aB,aC.aB,au.aB,List.cons_append,List.nil_append,dW,lC,pz,Nat.add_zero,lt,lE,lM,gK,mZ,DF,IZ,Nat.zero_add]
def lMe(l:List aN)(n:Nat):List (List D):=eP (l.map aN.enc) n
def pI(x:aH)(n:Nat):Nat:=n+1+(gK x.bA.fArgs+1)
def qI(x:aH)(n:Nat):Nat:=pI x n+(adU x.bR+1)
def rI(x:aH)(n:Nat):Nat:=qI x n+(gK x.bC.fArgs+1)
abbrev aH.cl(x:aH)(n p q r:Nat):List C:=[.d (.s x.bg),.d (.ol n (x.aK.map encS)),.d (.i .i64 x.bA.aI),.d (.s x.bA.fName),.d (.ol (n+1) (lt x.bA.fArgs (n+1+1))),.d (.ol p (lB x.bR (p+1))),.d (.b x.fq),.d (.b x.dn),
 .d (.i .i64 x.bC.aI),.d (.s x.bC.fName),.d (.ol q (lt x.bC.fArgs (q+1))),.d (.ol r (lMe x.aF (r+1)))]
abbrev aH.cv(x:aH):List C:=[.d (.s x.bg),.d (.sl (x.aK.map encS)),.d (.i .i64 x.bA.aI),.d (.s x.bA.fName),.d (.sl (x.bA.fArgs.map au.enc)),.d (.sl (x.bR.map aM.enc)),.d (.b x.fq),.d (.b x.dn),
 .d (.i .i64 x.bC.aI),.d (.s x.bC.fName),.d (.sl (x.bC.fArgs.map au.enc)),.d (.sl (x.aF.map aN.enc))]
theorem afw(x:aH)(n:Nat):(dW x.enc n).map C.d=x.cl n (pI x n) (qI x n) (rI x n):=by
 simp only[aH.aB,au.aB,List.cons_append,List.nil_append,dW,lC,pz,Nat.add_zero,lt,lB,lMe,gK,adU,pI,qI,rI,DF,IZ,Nat.zero_add,List.map_cons,List.map_nil];rfl
theorem Rv{x:ah}(h:qz x=false):kP x=GH:=if_neg (by rw[h];decide)
theorem Uz{x:ah}(h:qz x=true):kP x=xw true x:=if_pos h
abbrev sS:List C:=[.d (.s []),.bE [],.d (.i .i64 0),.d (.s []),.bE [],.bE [],.d (.b false),.d (.b false),.d (.i .i64 0),.d (.s []),.bE [],.bE []]
theorem ajO(e:aH)(h:e=GH)(ok:Bool):Less (.eU [(true,sS),(false,[.d (.b ok)])]) (.eU [(true,e.cv),(false,[.d (.b ok)])]):=by
 rw[h];exact(kN.cons (.cons (.refl _) (.cons (iF _) (.cons (.refl _) (.cons (.refl _) (.cons (iF _) (.cons (iF _) (.cons (.refl _) (.cons (.refl _) (.cons (.refl _) (.cons (.refl _) (.cons (iF _) (.cons (iF _) .nil)))))))))))) (.refl _)).less
theorem aal(e:aH)(h:e=GH)(n p q r:Nat)(ok:Bool):Less (.eU [(true,sS),(false,[.d (.b ok)])]) (.eU [(true,e.cl n p q r),(false,[.d (.b ok)])]):=by
 rw[h];exact(kN.cons (.cons (.refl _) (.cons (fJ _) (.cons (.refl _) (.cons (.refl _) (.cons (fJ _) (.cons (fJ _) (.cons (.refl _) (.cons (.refl _) (.cons (.refl _) (.cons (.refl _) (.cons (fJ _) (.cons (fJ _) .nil)))))))))))) (.refl _)).less
theorem Rw{b:Bool}{y:ah}(h:b=false\/y.aj.length=3):oQ b y=⟨(y.aj.getD 0 eH).aU,jr (y.aj.getD 1 eH).aj,dU b (y.aj.getD 2 eH)⟩:=by
 unfold oQ;rw[if_neg (by rintro⟨e1,e2⟩;rcases h with e|e;(rw[e] at e1;cases e1);exact e2 e)];rfl
theorem aam{y:ah}(h:y.aj.length≠3):oQ true y=⟨[],[],qX⟩:=if_pos ⟨rfl,h⟩
theorem Tw(x:ah)(hsz:x.sz<=1048576):aJ prog 31 [x.v] (.eU [(true,(kP x).cv),(false,[.d (.b (qz x))])]):=aJ.of_le fun S=>by
 have h1:=iL x;have hds:=Mc false x;have hos:=afi (x:=xw false x) (by omega);have hgs:=fun i=>Ay x i (m:=4194304) (by omega);obtain⟨l,hl⟩:∃l,l=x.aj.drop 7:=⟨_,rfl⟩
 have hll:l.length<=4194304:=by rw[hl,List.length_drop];omega
 have hlm:∀y∈l,y.sz<=4194304:=fun y hy=>by have:=jP (List.mem_of_mem_drop (hl▸hy));omega
 obtain⟨F,hF⟩:∃F,F=xw false x:=⟨_,rfl⟩;obtain⟨z,Ny⟩:∃z,z=x.aj.getD 6 eH:=⟨_,rfl⟩;have hzz:=hgs 6;rw[<-Ny] at hzz
 have f1:F.bg=(x.aj.getD 1 eH).aU:=by rw[hF];rfl
 have f2:F.aK=jr (x.aj.getD 2 eH).aj:=by rw[hF];rfl
 have f3:F.bA=eB false (x.aj.getD 3 eH):=by rw[hF];rfl
 have f4:F.bR=(x.aj.getD 4 eH).aj.map (ni false):=by rw[hF];rfl
 have f5:F.fq=decide ((0:Int)<((x.aj.getD 5 eH).aj.length:Int)):=by rw[hF];show decide (0<(x.aj.getD 5 eH).aj.length)=_;exact decide_eq_decide.2 (by omega)
 have f6:F.dn=decide (0<z.aj.length):=by rw[hF,Ny];rfl
 have f7:F.bC=if 0<z.aj.length then eB false (gX z.aj 0) else ig:=by rw[hF,Ny];rfl
 obtain⟨T,hT⟩:∃T:Nat->List (List D),T=fun i=>((l.map (oQ false)).take i).map aN.enc:=⟨_,rfl⟩
 have hT0:T 0=[]:=by rw[hT];rfl
 have lF:∀i,(T i).length<=i:=fun i=>by rw[hT];simp only[List.length_map];exact List.length_take_le _ _
 have hTs:∀i (hi:i<l.length),T i++[(oQ false l[i]).enc]=T (i+1):=fun i hi=>by
  have:=K6 (e:=aN.enc) (l:=l.map (oQ false)) (i:=i) (by rw[List.length_map];exact hi);rw[List.getElem_map] at this;rw[hT];exact this
 have hTe:T l.length=F.aF.map aN.enc:=by
  rw[hT];simp only
  rw[List.take_of_length_le (by simp),hF,hl];rfl
 clear hT
 have Bq:qz x=false->Less (.eU [(true,sS),(false,[.d (.b false)])]) (.eU [(true,(kP x).cv),(false,[.d (.b (qz x))])]):=fun e=>by
  rw[e];exact ajO _ (Rv e) false
 have c2:=FT _ (hgs 2);have c3:=wG (x.aj.getD 3 eH) (hgs 3);have c4:=N8 _ (hgs 4);rw[<-f2] at c2;rw[<-f3] at c3;rw[<-f4] at c4;refine(show Hold ?T->_ from fun tail=> ?main) ?tp
 case' main=>
  refine zcx [.cell 2 56,.tmp 3] func31 ntmps31 ?_;simp -implicitDefEqProofs (disch:=omega) only[go_sem];refine aA (mQ x 1 (by omega) (by omega)) ?_;simp -implicitDefEqProofs (disch:=omega) only[go_sem];refine aA (mQ x 2 (by omega) (by omega)) ?_;simp -implicitDefEqProofs (disch:=omega) only[go_sem];refine aA c2 ?_;simp -implicitDefEqProofs (disch:=omega) only[go_sem];refine aA (mQ x 3 (by omega) (by omega)) ?_;simp -implicitDefEqProofs (disch:=omega) only[go_sem];refine aA c3 ?_;simp -implicitDefEqProofs (disch:=omega) only[go_sem];refine aA (mQ x 4 (by omega) (by omega)) ?_;simp -implicitDefEqProofs (disch:=omega) only[go_sem];refine aA c4 ?_;simp -implicitDefEqProofs (disch:=omega) only[go_sem];refine aA (mQ x 5 (by omega) (by omega)) ?_;simp -implicitDefEqProofs (disch:=omega) only[go_sem]
  (repeat(with_reducible refine And.intro ?_ ?_;focus first|omega|rfl|assumption|exact⟨_,rfl,rfl⟩|(simp;omega)|(simp;done)))
  refine aA (mQ x 6 (by omega) (by omega)) ?_;simp -implicitDefEqProofs (disch:=omega) only[go_sem];rw[<-Ny]
  with_reducible refine aD (fun hb=> ?_) (fun hb=> ?_)<;>have h:=hb<;>(try simp only[wf_preprocess] at h)<;>simp -implicitDefEqProofs (disch:=omega) only[go_sem,hb]<;>(repeat(with_reducible refine And.intro ?_ ?_;focus first|omega|rfl|assumption|exact⟨_,rfl,rfl⟩|(simp;omega)|(simp;done)))
  ·have hpos:0<z.aj.length:=by omega
   rw[if_pos hpos,qY hpos] at f7;have hz0:=GD z hpos;have c7:=wG z.aj[0] (by omega);rw[<-f7] at c7;have Rx:F.dn=true:=f6.trans (decide_eq_true hpos)
   (repeat(with_reducible refine And.intro ?_ ?_;focus first|omega|rfl|assumption|exact⟨_,rfl,rfl⟩|(simp;omega)|(simp;done)))
   refine aA c7 ?_;simp -implicitDefEqProofs (disch:=omega) only[go_sem]
   (repeat(with_reducible refine And.intro ?_ ?_;focus first|omega|rfl|assumption|exact⟨_,rfl,rfl⟩|(simp;omega)|(simp;done)))
   refine aA (H9 x 7 (by omega)) ?_;simp -implicitDefEqProofs (disch:=omega) only[go_sem];rw[<-hl,<-f1,<-f5];refine yD 2 11 11 _ rfl rfl ?_
   refine l8 (st':=[.box [.d (.s x.aU),.d (.sl (x.aj.map ah.enc))],.box sS,.box [.d (.s F.bg),.d (.sl (F.aK.map encS)),.d (.i .i64 F.bA.aI),.d (.s F.bA.fName),.d (.sl (F.bA.fArgs.map au.enc)),.d (.sl (F.bR.map aM.enc)),.d (.b F.fq),.d (.b F.dn),.d (.i .i64 F.bC.aI),.d (.s F.bC.fName),.d (.sl (F.bC.fArgs.map au.enc)),.bK (0,4) []],
    .box [.d (.s z.aU),.d (.sl (z.aj.map ah.enc))],.tok 11 []]::S) [1,2,4,6,7] [.c (.ptr (0,0) 0),.c (.ptr (0,1) 0),.c (.ptr (0,2) 0),.c (.d (.sl (l.map ah.enc))),.c (.d (.i .i64 0))] ?_ ?_ ?_
   ·rfl
   ·rw[Rx];rfl
   ·exact tail.out
  ·have hpos:¬0<z.aj.length:=by omega
   rw[if_neg hpos] at f7;have Rx:F.dn=false:=f6.trans (decide_eq_false hpos);refine aA (H9 x 7 (by omega)) ?_;simp -implicitDefEqProofs (disch:=omega) only[go_sem];rw[<-hl,<-f1,<-f5];refine DR 2 _ _ rfl (Bh (iF []) 10 _ rfl) ?_;refine yD 2 11 11 _ rfl rfl ?_
   refine l8 (st':=[.box [.d (.s x.aU),.d (.sl (x.aj.map ah.enc))],.box sS,.box [.d (.s F.bg),.d (.sl (F.aK.map encS)),.d (.i .i64 F.bA.aI),.d (.s F.bA.fName),.d (.sl (F.bA.fArgs.map au.enc)),.d (.sl (F.bR.map aM.enc)),.d (.b F.fq),.d (.b F.dn),.d (.i .i64 F.bC.aI),.d (.s F.bC.fName),.d (.sl (F.bC.fArgs.map au.enc)),.bK (0,4) []],
    .box [.d (.s z.aU),.d (.sl (z.aj.map ah.enc))],.tok 11 []]::S) [1,2,4,6,7] [.c (.ptr (0,0) 0),.c (.ptr (0,1) 0),.c (.ptr (0,2) 0),.c (.d (.sl (l.map ah.enc))),.c (.d (.i .i64 0))] ?_ ?_ ?_
   ·rfl
   ·rw[Rx,f7];rfl
   ·exact tail.out
 refine⟨?_⟩
 refine bF (ι:=Nat) zmx rfl [1,2,4,6,7] (fun i=>[.c (.ptr (0,0) 0),.c (.ptr (0,1) 0),.c (.ptr (0,2) 0),.c (.d (.sl (l.map ah.enc))),.c (.d (.i .i64 i))])
  (fun i=>[.box [.d (.s x.aU),.d (.sl (x.aj.map ah.enc))],.box sS,.box [.d (.s F.bg),.d (.sl (F.aK.map encS)),.d (.i .i64 F.bA.aI),.d (.s F.bA.fName),.d (.sl (F.bA.fArgs.map au.enc)),.d (.sl (F.bR.map aM.enc)),.d (.b F.fq),.d (.b F.dn),.d (.i .i64 F.bC.aI),.d (.s F.bC.fName),.d (.sl (F.bC.fArgs.map au.enc)),.bK (0,4) (T i)],
    .box [.d (.s z.aU),.d (.sl (z.aj.map ah.enc))],.tok 11 (T i)]::S)
  (fun i=>i<=l.length) (fun i=>l.length-i) 0 rfl (by rw[hT0]) (Nat.zero_le _) ?_
 intro i hi;have hl':=lF i;simp -implicitDefEqProofs (disch:=omega) only[go_sem]
 with_reducible refine aD (fun hb=> ?_) (fun hb=> ?_)<;>have h:=hb<;>(try simp only[wf_preprocess] at h)<;>simp -implicitDefEqProofs (disch:=omega) only[go_sem,hb]<;>(repeat(with_reducible refine And.intro ?_ ?_;focus first|omega|rfl|assumption|exact⟨_,rfl,rfl⟩|(simp;omega)|(simp;done)))
 ·have hi':i<l.length:=by omega
  have hz:=hlm _ (List.getElem_mem hi');have hs:=hTs i hi';have hg:=fun k=>Ay l[i] k hz;rw[Rw (b:=false) (.inl rfl)] at hs;simp only[aN.aB,aC.aB,au.aB,List.cons_append,List.nil_append] at hs
  (repeat(with_reducible refine And.intro ?_ ?_;focus first|omega|rfl|assumption|exact⟨_,rfl,rfl⟩|(simp;omega)|(simp;done)))
  refine aA (mQ l[i] 0 hz (by omega)) ?_;simp -implicitDefEqProofs (disch:=omega) only[go_sem]
  (repeat(with_reducible refine And.intro ?_ ?_;focus first|omega|rfl|assumption|exact⟨_,rfl,rfl⟩|(simp;omega)|(simp;done)))
  refine aA (mQ l[i] 1 hz (by omega)) ?_;simp -implicitDefEqProofs (disch:=omega) only[go_sem];refine aA (FT _ (hg 1)) ?_;simp -implicitDefEqProofs (disch:=omega) only[go_sem]
  (repeat(with_reducible refine And.intro ?_ ?_;focus first|omega|rfl|assumption|exact⟨_,rfl,rfl⟩|(simp;omega)|(simp;done)))
  refine aA (mQ l[i] 2 hz (by omega)) ?_;simp -implicitDefEqProofs (disch:=omega) only[go_sem];refine aA (Tt (l[i].aj.getD 2 eH) (hg 2)) ?_;simp -implicitDefEqProofs (disch:=omega) only[go_sem]
  (repeat(with_reducible refine And.intro ?_ ?_;focus first|omega|rfl|assumption|exact⟨_,rfl,rfl⟩|(simp;omega)|(simp;done)))
  rw[hs];exact dO 5 (by decide) (i+1) (by omega) rfl rfl rfl rfl (by omega)
 ·have hi':i=l.length:=by omega
  subst hi';rw[hTe];clear hTs;refine aA (yQ x (by omega)) ?_;simp -implicitDefEqProofs (disch:=omega) only[go_sem]
  with_reducible refine aD (fun hb=> ?_) (fun hb=> ?_)<;>have h:=hb<;>(try simp only[wf_preprocess] at h)<;>simp -implicitDefEqProofs (disch:=omega) only[go_sem,hb]<;>(repeat(with_reducible refine And.intro ?_ ?_;focus first|omega|rfl|assumption|exact⟨_,rfl,rfl⟩|(simp;omega)|(simp;done)))
  ·exact Bq (bI fun e=>by rw[e.1] at h;cases h)
  have hv:=h
  with_reducible refine aD (fun hb=> ?_) (fun hb=> ?_)<;>have h:=hb<;>(try simp only[wf_preprocess] at h)<;>simp -implicitDefEqProofs (disch:=omega) only[go_sem,hb]<;>(repeat(with_reducible refine And.intro ?_ ?_;focus first|omega|rfl|assumption|exact⟨_,rfl,rfl⟩|(simp;omega)|(simp;done)))
  ·exact Bq (bI fun e=>by omega)
  have hne:x.aj≠[]:=fun e=>by rw[e] at h;exact h rfl
  have hok:=adn hne;rw[hv,Bool.true_and] at hok;rw[<-hF] at hok hos hds
  (repeat(with_reducible refine And.intro ?_ ?_;focus first|omega|rfl|assumption|exact⟨_,rfl,rfl⟩|(simp;omega)|(simp;done)))
  refine aA (DU F (by omega)) ?_;simp -implicitDefEqProofs (disch:=omega) only[go_sem];refine aA (nD (kI F) x (by omega)) ?_;simp -implicitDefEqProofs (disch:=omega) only[go_sem]
  with_reducible refine aD (fun hb=> ?_) (fun hb=> ?_)<;>have h:=hb<;>(try simp only[wf_preprocess] at h)<;>simp -implicitDefEqProofs (disch:=omega) only[go_sem,hb]<;>(repeat(with_reducible refine And.intro ?_ ?_;focus first|omega|rfl|assumption|exact⟨_,rfl,rfl⟩|(simp;omega)|(simp;done)))
  ·exact Bq (by rw[hok];exact bI h)
  ·have hy:qz x=true:=by rw[hok];exact bT h
   rw[Uz hy,hy,<-ado hy,<-hF];exact jL _
theorem Ry(x:ah)(n:Nat)(hsz:x.sz<=1048576)(hf:iE x=true/\7<=x.aj.length/\dA x.aj 0=tO):aJ prog 29 [x.v] (.eU [(true,(kP x).cl n (pI (kP x) n) (qI (kP x) n) (rI (kP x) n)),(false,[.d (.b (qz x))])]):=aJ.of_le fun S=>by
 have h1:=iL x;have hds:=Mc true x;obtain⟨F,hF⟩:∃F,F=xw true x:=⟨_,rfl⟩;obtain⟨p,hp⟩:∃p,p=pI F n:=⟨_,rfl⟩;obtain⟨q,hq⟩:∃q,q=qI F n:=⟨_,rfl⟩;obtain⟨r,hr0⟩:∃r,r=rI F n:=⟨_,rfl⟩
 have Bq:qz x=false->Less (.eU [(true,sS),(false,[.d (.b false)])]) (.eU [(true,(kP x).cl n (pI (kP x) n) (qI (kP x) n) (rI (kP x) n)),(false,[.d (.b (qz x))])]):=fun e=>by
  rw[e];exact aal _ (Rv e) n _ _ _ false
 have hvx:=MS hf.1
 have hfo:je x=true:=by have:=hf.1;unfold iE at this;rw[Bool.and_eq_true] at this;exact this.1
 have hlen:7<=x.aj.length:=hf.2.1;have hr:=gW (l:=x.aj)
 have f1:F.bg=x.aj[1].aU:=by rw[hF];exact mX (by omega)
 have f2:F.aK=jr x.aj[2].aj:=by rw[hF,<-qY (l:=x.aj) (i:=2) (by omega)];rfl
 have f3:F.bA=eB true x.aj[3]:=by rw[hF,<-qY (l:=x.aj) (i:=3) (by omega)];rfl
 have f4:F.bR=x.aj[4].aj.map (ni true):=by rw[hF,<-qY (l:=x.aj) (i:=4) (by omega)];rfl
 have f5:F.fq=decide ((0:Int)<(x.aj[5].aj.length:Int)):=by rw[hF,<-qY (l:=x.aj) (i:=5) (by omega)];show decide (0<(x.aj.getD 5 eH).aj.length)=_;exact decide_eq_decide.2 (by show _<->((0:Int)<((x.aj.getD 5 eH).aj.length:Int));omega)
 obtain⟨z,Ny⟩:∃z,z=x.aj[6]:=⟨_,rfl⟩
 have f6:F.dn=decide (0<z.aj.length):=by rw[hF,Ny,<-qY (l:=x.aj) (i:=6) (by omega)];rfl
 have f7:F.bC=if 0<z.aj.length then eB true (gX z.aj 0) else ig:=by rw[hF,Ny,<-qY (l:=x.aj) (i:=6) (by omega)];rfl
 have hzs:=fun i hi=>GD x (i:=i) hi;have hzz:=hzs 6 (by omega);subst Ny;have c2:=Ej x.aj[2] (by have:=hzs 2 (by omega);omega) n;have c3:=uz x.aj[3] (n+1) (by have:=hzs 3 (by omega);omega);have c4:=N9 x.aj[4] p (p+1) (by have:=hzs 4 (by omega);omega);rw[<-f2] at c2;rw[<-f3] at c3;rw[<-f4] at c4;obtain⟨l,hl⟩:∃l,l=x.aj.drop 7:=⟨_,rfl⟩
 have hll:l.length<=4194304:=by rw[hl,List.length_drop];omega
 have hlm:∀y∈l,y.sz<=1048576/\je y=true:=fun y hy=>by
  have h2:=List.mem_of_mem_drop (hl▸hy);have:=jP h2;exact⟨by omega,uM (FV hfo (fun e=>by rw[e] at h2;cases h2)) h2⟩
 obtain⟨L,hL⟩:∃L:Nat->Nat,L=fun i=>r+1+nG (((l.map (oQ true)).take i).map aN.enc):=⟨_,rfl⟩;obtain⟨T,hT⟩:∃T:Nat->List (List D),T=fun i=>eP (((l.map (oQ true)).take i).map aN.enc) (r+1):=⟨_,rfl⟩
 have hT0:T 0=[]:=by rw[hT];rfl
 have lF:∀i,(T i).length<=i:=fun i=>by rw[hT];simp only[jU,List.length_map];exact List.length_take_le _ _
 have hTr:∀i,∀r∈T i,r.length=11:=fun i=>by
  rw[hT]
  exact zl fun r hr=>by
   obtain⟨z,_,rfl⟩:=List.mem_map.1 hr;exact z.bN
 have hTs:∀i (hi:i<l.length),T i++[dW (oQ true l[i]).enc (L i)]=T (i+1):=fun i hi=>by
  have:=Ib (e:=aN.enc) (l:=l.map (oQ true)) (i:=i) (by rw[List.length_map];exact hi) (r+1);rw[List.getElem_map] at this;rw[hT,hL];exact this
 have hTe:T l.length=lMe F.aF (r+1):=by
  rw[hT];simp only
  rw[List.take_of_length_le (by simp),hF,hl];rfl
 clear hT hL;by_cases hpos:0<x.aj[6].aj.length
 case' pos=>
  refine lN (n) (rs:=[.cell 2 56,.tmp 3]) zmx func29 ntmps29 rfl rfl rfl rfl rfl ?_;simp -implicitDefEqProofs (disch:=omega) only[go_sem];refine aA (DY x tO 7 (by omega) (by omega) (by omega)) ?_;simp -implicitDefEqProofs (disch:=omega) only[go_sem,bT hf]
  (repeat(with_reducible refine And.intro ?_ ?_;focus first|omega|rfl|assumption|exact⟨_,rfl,rfl⟩|(simp;omega)|(simp;done)))
  refine aA c2 ?_;simp -implicitDefEqProofs (disch:=omega) only[go_sem]
  (repeat(with_reducible refine And.intro ?_ ?_;focus first|omega|rfl|assumption|exact⟨_,rfl,rfl⟩|(simp;omega)|(simp;done)))
  refine aA c3 ?_;simp -implicitDefEqProofs (disch:=omega) only[go_sem]
  (repeat(with_reducible refine And.intro ?_ ?_;focus first|omega|rfl|assumption|exact⟨_,rfl,rfl⟩|(simp;omega)|(simp;done)))
  refine aA c4 ?_;simp -implicitDefEqProofs (disch:=omega) only[go_sem]
  (repeat(with_reducible refine And.intro ?_ ?_;focus first|omega|rfl|assumption|exact⟨_,rfl,rfl⟩|(simp;omega)|(simp;done)))
  refine aD (fun hb=> ?_) (fun hb=> ?_)<;>have h:=hb<;>(try simp only[wf_preprocess] at h)<;>(first|(exfalso;omega)|skip);simp -implicitDefEqProofs (disch:=omega) only[go_sem,hb]
  (repeat(with_reducible refine And.intro ?_ ?_;focus first|omega|rfl|assumption|exact⟨_,rfl,rfl⟩|(simp;omega)|(simp;done)))
  rw[if_pos hpos,qY hpos] at f7;have hz0:=GD x.aj[6] hpos;have c7:=uz x.aj[6].aj[0] q (by omega);rw[<-f7] at c7;have Rx:F.dn=true:=f6.trans (decide_eq_true hpos)
  (repeat(with_reducible refine And.intro ?_ ?_;focus first|omega|rfl|assumption|exact⟨_,rfl,rfl⟩|(simp;omega)|(simp;done)))
  refine aA c7 ?_;simp -implicitDefEqProofs (disch:=omega) only[go_sem];refine⟨⟨by omega,by omega,hr⟩,?_⟩;rw[qy _ _ _ (Nat.le_refl _),<-hl,<-f1,<-f5];simp -implicitDefEqProofs (disch:=omega) only[go_sem];refine zn r 3 11 11 _ rfl rfl ?_;refine l8 (st':=[.seed n,.box [.d (.s x.aU),.d (.sl (x.aj.map ah.enc))],.box sS,.box [.d (.s F.bg),.d (.ol n (F.aK.map encS)),.d (.i .i64 F.bA.aI),.d (.s F.bA.fName),.d (.ol (n+1) (lt F.bA.fArgs (n+1+1))),.d (.ol p (lB F.bR (p+1))),.d (.b F.fq),.d (.b F.dn),.d (.i .i64 F.bC.aI),.d (.s F.bC.fName),.d (.ol q (lt F.bC.fArgs (q+1))),.bK (0,4) []],.dY r 11 []]::S) [1,2,5,54,55,56] [.c (.ptr (0,1) 0),.c (.ptr (0,2) 0),.c (.ptr (0,3) 0),.c (.d (.sl (l.map ah.enc))),.c (.d (.i .i64 l.length)),.c (.d (.i .i64 0))] ?_ ?_ ?_
  ·rfl
  ·rw[Rx];rfl
 case' neg=>
  refine lN (n) (rs:=[.cell 2 56,.tmp 3]) zmx func29 ntmps29 rfl rfl rfl rfl rfl ?_;simp -implicitDefEqProofs (disch:=omega) only[go_sem];refine aA (DY x tO 7 (by omega) (by omega) (by omega)) ?_;simp -implicitDefEqProofs (disch:=omega) only[go_sem,bT hf]
  (repeat(with_reducible refine And.intro ?_ ?_;focus first|omega|rfl|assumption|exact⟨_,rfl,rfl⟩|(simp;omega)|(simp;done)))
  refine aA c2 ?_;simp -implicitDefEqProofs (disch:=omega) only[go_sem]
  (repeat(with_reducible refine And.intro ?_ ?_;focus first|omega|rfl|assumption|exact⟨_,rfl,rfl⟩|(simp;omega)|(simp;done)))
  refine aA c3 ?_;simp -implicitDefEqProofs (disch:=omega) only[go_sem]
  (repeat(with_reducible refine And.intro ?_ ?_;focus first|omega|rfl|assumption|exact⟨_,rfl,rfl⟩|(simp;omega)|(simp;done)))
  refine aA c4 ?_;simp -implicitDefEqProofs (disch:=omega) only[go_sem]
  (repeat(with_reducible refine And.intro ?_ ?_;focus first|omega|rfl|assumption|exact⟨_,rfl,rfl⟩|(simp;omega)|(simp;done)))
  refine aD (fun hb=> ?_) (fun hb=> ?_)<;>have h:=hb<;>(try simp only[wf_preprocess] at h)<;>(first|(exfalso;omega)|skip);simp -implicitDefEqProofs (disch:=omega) only[go_sem,hb]
  (repeat(with_reducible refine And.intro ?_ ?_;focus first|omega|rfl|assumption|exact⟨_,rfl,rfl⟩|(simp;omega)|(simp;done)))
  rw[if_neg hpos] at f7;have Rx:F.dn=false:=f6.trans (decide_eq_false hpos);refine⟨⟨by omega,by omega,hr⟩,?_⟩;rw[qy _ _ _ (Nat.le_refl _),<-hl,<-f1,<-f5];simp -implicitDefEqProofs (disch:=omega) only[go_sem];refine DR 3 _ _ rfl (Bh (fJ q) 10 _ rfl) ?_;refine zn r 3 11 11 _ rfl rfl ?_;refine l8 (st':=[.seed n,.box [.d (.s x.aU),.d (.sl (x.aj.map ah.enc))],.box sS,.box [.d (.s F.bg),.d (.ol n (F.aK.map encS)),.d (.i .i64 F.bA.aI),.d (.s F.bA.fName),.d (.ol (n+1) (lt F.bA.fArgs (n+1+1))),.d (.ol p (lB F.bR (p+1))),.d (.b F.fq),.d (.b F.dn),.d (.i .i64 F.bC.aI),.d (.s F.bC.fName),.d (.ol q (lt F.bC.fArgs (q+1))),.bK (0,4) []],.dY r 11 []]::S) [1,2,5,54,55,56] [.c (.ptr (0,1) 0),.c (.ptr (0,2) 0),.c (.ptr (0,3) 0),.c (.d (.sl (l.map ah.enc))),.c (.d (.i .i64 l.length)),.c (.d (.i .i64 0))] ?_ ?_ ?_
  ·rfl
  ·rw[Rx,f7];rfl
 all_goals
  refine bF (ι:=Nat×List (List D)) zmx rfl [1,2,5,54,55,56] (fun y=>[.c (.ptr (0,1) 0),.c (.ptr (0,2) 0),.c (.ptr (0,3) 0),.c (.d (.sl (l.map ah.enc))),.c (.d (.i .i64 l.length)),.c (.d (.i .i64 y.1))])
   (fun y=>[.seed n,.box [.d (.s x.aU),.d (.sl (x.aj.map ah.enc))],.box sS,.box [.d (.s F.bg),.d (.ol n (F.aK.map encS)),.d (.i .i64 F.bA.aI),.d (.s F.bA.fName),.d (.ol (n+1) (lt F.bA.fArgs (n+1+1))),.d (.ol p (lB F.bR (p+1))),.d (.b F.fq),.d (.b F.dn),.d (.i .i64 F.bC.aI),.d (.s F.bC.fName),.d (.ol q (lt F.bC.fArgs (q+1))),.bK (0,4) y.2],.dY r 11 y.2]::S)
   (fun y=>y.1<=l.length/\gV y.2 (T y.1)) (fun y=>l.length-y.1) (0,[]) rfl rfl ⟨Nat.zero_le _,by rw[hT0];exact .nil⟩ ?_
  rintro⟨i,U⟩ ⟨p1,p2⟩;simp only at p1 p2;have hU1:=p2.length;have hU2:=lF i;have hU3:=p2.rows (hTr i);simp -implicitDefEqProofs (disch:=omega) only[go_sem]
  with_reducible refine aD (fun hb=> ?_) (fun hb=> ?_)<;>have h:=hb<;>(try simp only[wf_preprocess] at h)<;>simp -implicitDefEqProofs (disch:=omega) only[go_sem,hb]<;>(repeat(with_reducible refine And.intro ?_ ?_;focus first|omega|rfl|assumption|exact⟨_,rfl,rfl⟩|(simp;omega)|(simp;done)))
  ·have hi':i<l.length:=by omega
   obtain⟨hz,hfy⟩:=hlm _ (List.getElem_mem hi');have hs:=hTs i hi';have hz1:=iL l[i]
   (repeat(with_reducible refine And.intro ?_ ?_;focus first|omega|rfl|assumption|exact⟨_,rfl,rfl⟩|(simp;omega)|(simp;done)))
   with_reducible refine aD (fun hb=> ?_) (fun hb=> ?_)<;>have h:=hb<;>(try simp only[wf_preprocess] at h)<;>simp -implicitDefEqProofs (disch:=omega) only[go_sem,hb]<;>(repeat(with_reducible refine And.intro ?_ ?_;focus first|omega|rfl|assumption|exact⟨_,rfl,rfl⟩|(simp;omega)|(simp;done)))
   ·have hl3:l[i].aj.length=3:=by omega
    have hd:=Rw (b:=true) (y:=l[i]) (.inr hl3);have g0:l[i].aj.getD 0 eH=l[i].aj[0]:=qY (by omega);have g1:l[i].aj.getD 1 eH=l[i].aj[1]:=qY (by omega);have g2:l[i].aj.getD 2 eH=l[i].aj[2]:=qY (by omega);rw[g0,g1,g2] at hd;rw[hd,Ru] at hs;have hy1:=GD l[i] (i:=1) (by omega);have hy2:=GD l[i] (i:=2) (by omega)
    (repeat(with_reducible refine And.intro ?_ ?_;focus first|omega|rfl|assumption|exact⟨_,rfl,rfl⟩|(simp;omega)|(simp;done)))
    refine aA (Ej l[i].aj[1] (by omega) (L i)) ?_;simp -implicitDefEqProofs (disch:=omega) only[go_sem]
    (repeat(with_reducible refine And.intro ?_ ?_;focus first|omega|rfl|assumption|exact⟨_,rfl,rfl⟩|(simp;omega)|(simp;done)))
    refine aA (Rp l[i].aj[2] (L i+1) (afv hfy (by omega)) (by omega)) ?_;simp -implicitDefEqProofs (disch:=omega) only[go_sem]
    (repeat(with_reducible refine And.intro ?_ ?_;focus first|omega|rfl|assumption|exact⟨_,rfl,rfl⟩|(simp;omega)|(simp;done)))
    refine dO 5 (by decide) (i+1,_) (by simp only;omega) rfl rfl rfl rfl ⟨by simp only;omega,?_⟩
    simp only
    rw[<-hs];exact p2.snoc (.refl _)
   ·rw[aam (by omega),Ru] at hs;refine dO 5 (by decide) (i+1,_) (by simp only;omega) rfl rfl rfl rfl ⟨by simp only;omega,?_⟩
    simp only
    rw[<-hs];exact p2.snoc (.cons (.refl _) (.cons (Cz _) (.cons (.refl _) (.cons (.refl _) (.cons (.refl _) (.cons (.refl _) (.cons (.refl _) (.cons (.refl _) (.cons (Cz _) (.cons (Cz _) (.cons (Cz _) .nil)))))))))))
  ·have hi':i=l.length:=by omega
   subst hi';clear hTs;rw[hTe] at p2
   have hcl:Less (.agg [.d (.s F.bg),.d (.ol n (F.aK.map encS)),.d (.i .i64 F.bA.aI),.d (.s F.bA.fName),.d (.ol (n+1) (lt F.bA.fArgs (n+1+1))),.d (.ol p (lB F.bR (p+1))),.d (.b F.fq),.d (.b F.dn),.d (.i .i64 F.bC.aI),.d (.s F.bC.fName),.d (.ol q (lt F.bC.fArgs (q+1))),.d (.sl U)]) F.v:=by
    have lab:∀(es:List (List D))(k j:Nat),nC (.d (.ol k (eP es j))) (.d (.sl es)):=fun es k j w σ S β v h=>(BL es j).rep (rX h);exact(eY.cons (.refl _) (.cons (ae9 _ _) (.cons (.refl _) (.cons (.refl _) (.cons (lab _ _ _) (.cons (lab _ _ _) (.cons (.refl _) (.cons (.refl _) (.cons (.refl _) (.cons (.refl _) (.cons (lab _ _ _) (.cons (Te (p2.trans (BL _ _))) .nil)))))))))))).less
   rw[<-hF] at hds;refine wo (qM F (by omega)) (.cons hcl .nil) ?_;simp -implicitDefEqProofs (disch:=omega) only[go_sem]
   with_reducible refine aD (fun hb=> ?_) (fun hb=> ?_)<;>have h:=hb<;>(try simp only[wf_preprocess] at h)<;>simp -implicitDefEqProofs (disch:=omega) only[go_sem,hb]<;>(repeat(with_reducible refine And.intro ?_ ?_;focus first|omega|rfl|assumption|exact⟨_,rfl,rfl⟩|(simp;omega)|(simp;done)))
   ·exact Bq (bI fun e=>by rw[<-hF] at e;rw[e.2.2.1] at h;cases h)
   have hv:=h;have hz:=CF hv
   (repeat(with_reducible refine And.intro ?_ ?_;focus first|omega|rfl|assumption|exact⟨_,rfl,rfl⟩|(simp;omega)|(simp;done)))
   refine wo (aJ.less (FE F 0 hv (by omega)) (LX (qg F) 0)) (.cons hcl .nil) ?_;simp -implicitDefEqProofs (disch:=omega) only[go_sem];refine aA (GR (qg F) x (by omega)) ?_;simp -implicitDefEqProofs (disch:=omega) only[go_sem]
   with_reducible refine aD (fun hb=> ?_) (fun hb=> ?_)<;>have h:=hb<;>(try simp only[wf_preprocess] at h)<;>simp -implicitDefEqProofs (disch:=omega) only[go_sem,hb]<;>(repeat(with_reducible refine And.intro ?_ ?_;focus first|omega|rfl|assumption|exact⟨_,rfl,rfl⟩|(simp;omega)|(simp;done)))
   ·exact Bq (bI fun e=>h (by rw[<-hF] at e;exact e.2.2.2))
   ·have hy:qz x=true:=by
     unfold qz;rw[<-hF];exact bT ⟨hf.1,hf.2,hv,h⟩
    rw[Uz hy,hy,<-hF,<-hp,<-hq,<-hr0];exact(kN.cons (.cons (.refl _) (.cons (.refl _) (.cons (.refl _) (.cons (.refl _) (.cons (.refl _) (.cons (.refl _) (.cons (.refl _) (.cons (.refl _) (.cons (.refl _) (.cons (.refl _) (.cons (.refl _) (.cons (WZ p2) .nil)))))))))))) (.refl _)).less
theorem Rz(x:ah)(n:Nat)(hsz:x.sz<=1048576):aJ prog 29 [x.v] (.eU [(true,(kP x).cl n (pI (kP x) n) (qI (kP x) n) (rI (kP x) n)),(false,[.d (.b (qz x))])]):=by
 by_cases hf:iE x=true/\7<=x.aj.length/\dA x.aj 0=tO
 ·exact Ry x n hsz hf
 ·refine aJ.of_le fun S=> ?_
  have Bq:qz x=false->Less (.eU [(true,sS),(false,[.d (.b false)])]) (.eU [(true,(kP x).cl n (pI (kP x) n) (qI (kP x) n) (rI (kP x) n)),(false,[.d (.b (qz x))])]):=fun e=>by
   rw[e];exact aal _ (Rv e) n _ _ _ false
  refine zcx [.cell 2 56,.tmp 3] func29 ntmps29 ?_;simp -implicitDefEqProofs (disch:=omega) only[go_sem];refine aA (DY x tO 7 (by omega) (by omega) (by omega)) ?_;simp -implicitDefEqProofs (disch:=omega) only[go_sem]
  with_reducible refine aD (fun hb=> ?_) (fun hb=> ?_)<;>have h:=hb<;>(try simp only[wf_preprocess] at h)<;>simp -implicitDefEqProofs (disch:=omega) only[go_sem,hb]<;>(repeat(with_reducible refine And.intro ?_ ?_;focus first|omega|rfl|assumption|exact⟨_,rfl,rfl⟩|(simp;omega)|(simp;done)))
  ·exact Bq (bI fun e=>hf ⟨e.1,e.2.1.1,e.2.1.2⟩)
  ·exact absurd h hf
theorem Em(x:ah)(n:Nat)(hsz:x.sz<=1048576):aJ prog 29 [x.v] (.eU [(true,(dW (kP x).enc n).map .d),(false,[.d (.b (qz x))])]):=by
 rw[afw];exact Rz x n hsz
end Go.Ab