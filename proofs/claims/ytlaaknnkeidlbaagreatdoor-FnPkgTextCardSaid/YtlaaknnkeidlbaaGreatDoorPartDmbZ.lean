/-
  SEVERAL TEXTS IN ONE (merged by program): contracts and models, each with its own heading.
-/
import Derived.Test.YtlaaknnkeidlbaaGreatDoorPartDmbS
import Derived.Test.YtlaaknnkeidlbaaGreatDoorPartDmbX
set_option maxHeartbeats 8000000
open Go.Proofs Go.Proofs.Tryz
set_option linter.unusedSimpArgs false
set_option linter.unusedVariables false
set_option maxRecDepth 4000
namespace Go.Ab
def wK(b:Bool)(y:ah):cO:=if b=true/\y.aj.length≠3 then⟨[],[],nA⟩ else⟨dQ y.aj 0,nX y.aj 1,fP b (gX y.aj 2)⟩
def K7(b:Bool)(x:ah):aS:=
 ⟨dQ x.aj 1,nX x.aj 2,fK b (gX x.aj 3),(gX x.aj 4).aj.map (tY b),decide (0<(gX x.aj 5).aj.length),decide (0<(gX x.aj 6).aj.length),
   if 0<(gX x.aj 6).aj.length then fK b (gX (gX x.aj 6).aj 0) else jA,(x.aj.drop 7).map (wK b)⟩
theorem af7{vars:List (List UInt8)}{e:ay}(h:nu vars e=true):∀v∈vars,v≠[]:=by
 unfold nu at h;rw[Bool.and_eq_true] at h;exact zC h.1
theorem ajI(b:Bool){m:cO}(h:nu m.aH m.fBody=true):wK b (om m)=m:=by
 unfold wK;rw[if_neg (by simp[om,dw])];show cO.mk m.fName (gB (aO m.aH)) (fP b (fu m.fBody))=m;rw[nS (af7 h),Ht b _ (FE h)]
theorem inst_more{x:aS}(h:eX x=true):(∀v∈x.aH,v≠[])/\(x.fJ=false->x.bR=jA)/\(∀m∈x.aN,nu m.aH m.fBody=true):=by
 unfold eX vQ at h;simp only[Bool.and_eq_true] at h;obtain⟨⟨_,_,h0,h1,_,_,_,h2,h3,_⟩,h4,_⟩:=h;refine⟨zC h0,fun ha=> ?_,fun m hm=> ?_⟩
 ·rw[if_neg (by rw[ha];decide)] at h3;exact su (gJ h3)
 ·have h5:=List.all_eq_true.1 h4 m hm;unfold mI at h5;simp only[Bool.and_eq_true] at h5;exact h5.2.2
theorem RV(b:Bool){x:aS}(h:eX x=true):K7 b (pR x)=x:=by
 obtain⟨h1,h2,h3,h4⟩:=nQ h;obtain⟨g1,g2,g3⟩:=inst_more h;show aS.mk x.bO (gB (aO x.aH)) (fK b (dn x.bY)) ((x.dI.map qh).map (tY b)) (decide (0<(aO (j4 x)).length)) (decide (0<(j5 x).length)) (if 0<(j5 x).length then fK b (gX (j5 x) 0) else jA) ((x.aN.map om).map (wK b))=x;rw[nS g1,xS b _ h1,EZ fun c hc=>aae b (h2 c hc),EZ fun c hc=>ajI b (g3 c hc),jr]
 have e1:decide (0<(j4 x).length)=x.iK:=by unfold j4;cases x.iK<;>rfl
 rw[e1];unfold j5
 cases ha:x.fJ with
 |true=>
  rw[if_pos rfl];show aS.mk _ _ _ _ _ true (fK b (dn x.bR)) _=x;rw[xS b _ (h3 ha),<-ha]
 |false=>
  rw[if_neg (by decide)];show aS.mk _ _ _ _ _ false jA _=x;rw[<-g2 ha,<-ha]
noncomputable def Di(x:ah):Bool:=dec (dV x=true/\(7<=x.aj.length/\dQ x.aj 0=mh)/\eX (K7 true x)=true/\pR (K7 true x)=x)
def QF:aS:=⟨[],[],jA,[],false,false,jA,[]⟩
noncomputable def rX(x:ah):aS:=if Di x=true then K7 true x else QF
theorem ajJ(b:Bool)(y:ah):(wK b y).sz<=y.sz:=by
 have h1:=EY y.aj;have h2:=qE y;have h3:=qE (gX y.aj 0);have h4:=tu (gX y.aj 1).aj;have h4':=qE (gX y.aj 1);have h5:=DX b (gX y.aj 2);unfold wK;split
 ·simp only[cO.sz,cO.aJ,bQ,bP,D.sz,ay.dP,zD,List.map_nil,aP,List.length_nil];omega
 ·simp only[cO.sz,cO.aJ,bQ,bP,D.sz,ay.dP,List.length_map,nX,dH,FT];omega
theorem TR(b:Bool):∀l:List ah,aP ((l.map (wK b)).map cO.enc)<=dA l
 |[]=>by simp[aP]
 |y::l=>by
  have h1:=ajJ b y;have h2:=TR b l;rw[List.map_cons,List.map_cons,aP,dA];simp only[cO.sz] at h1;omega
theorem aah(b:Bool)(x:ah):(K7 b x).sz<=x.sz:=by
 have h1:=Co x.aj;have h2:=qE x;have h3:=qE (gX x.aj 1);have h4:=tu (gX x.aj 2).aj;have h4':=qE (gX x.aj 2);have h5:=zB b (gX x.aj 3);have h6:=NU b (gX x.aj 4).aj;have h6':=qE (gX x.aj 4)
 have h7:(if 0<(gX x.aj 6).aj.length then fK b (gX (gX x.aj 6).aj 0) else jA).sz<=(gX x.aj 6).sz:=by
  have a1:=qE (gX x.aj 6);have a2:=EY (gX x.aj 6).aj;have a3:=zB b (gX (gX x.aj 6).aj 0);split
  ·omega
  ·rw[Cn];omega
 have h8:=TR b (x.aj.drop 7);generalize hz:(if 0<(gX x.aj 6).aj.length then fK b (gX (gX x.aj 6).aj 0) else jA)=z at h7;simp only[aS.sz,aS.aJ,bQ,bP,D.sz,ak.dP,K7,hz,List.length_map,List.length_drop,nX,dH,FT];omega
theorem XQ(x:cO)(n:Nat):fV x.enc n=[.s x.fName,.ol n (x.aH.map encS),.i .i64 x.fBody.aM,.s x.fBody.bO,.s x.fBody.fName,.i .i64 x.fBody.fN,.i .i64 x.fBody.fType.aM,.s x.fBody.fType.fName,.ol (n+1) (lt x.fBody.fType.fArgs (n+1+1)),
 .ol (n+1+(fU x.fBody.fType.fArgs+1)) (lE x.fBody.fArgs (n+1+(fU x.fBody.fType.fArgs+1)+1)),.ol (n+1+(fU x.fBody.fType.fArgs+1)+(kY x.fBody.fArgs+1)) (lM x.fBody.aT (n+1+(fU x.fBody.fType.fArgs+1)+(kY x.fBody.fArgs+1)+1))]:=by
 simp only[cO.aJ,ay.aJ,ak.aJ,List.cons_append,List.nil_append,fV,vB,vw,Nat.add_zero,lt,lE,lM,fU,kY,vC,xD,Nat.zero_add]
def lMe(l:List cO)(n:Nat):List (List D):=eZ (l.map cO.enc) n
def pI(x:aS)(n:Nat):Nat:=n+1+(fU x.bY.fArgs+1)
def qI(x:aS)(n:Nat):Nat:=pI x n+(UW x.dI+1)
def rI(x:aS)(n:Nat):Nat:=qI x n+(fU x.bR.fArgs+1)
abbrev aS.cl(x:aS)(n p q r:Nat):List C:=[.d (.s x.bO),.d (.ol n (x.aH.map encS)),.d (.i .i64 x.bY.aM),.d (.s x.bY.fName),.d (.ol (n+1) (lt x.bY.fArgs (n+1+1))),.d (.ol p (lB x.dI (p+1))),.d (.b x.iK),.d (.b x.fJ),
 .d (.i .i64 x.bR.aM),.d (.s x.bR.fName),.d (.ol q (lt x.bR.fArgs (q+1))),.d (.ol r (lMe x.aN (r+1)))]
abbrev aS.cv(x:aS):List C:=[.d (.s x.bO),.d (.sl (x.aH.map encS)),.d (.i .i64 x.bY.aM),.d (.s x.bY.fName),.d (.sl (x.bY.fArgs.map ak.enc)),.d (.sl (x.dI.map bW.enc)),.d (.b x.iK),.d (.b x.fJ),
 .d (.i .i64 x.bR.aM),.d (.s x.bR.fName),.d (.sl (x.bR.fArgs.map ak.enc)),.d (.sl (x.aN.map cO.enc))]
theorem amt(x:aS)(n:Nat):(fV x.enc n).map C.d=x.cl n (pI x n) (qI x n) (rI x n):=by
 simp only[aS.aJ,ak.aJ,List.cons_append,List.nil_append,fV,vB,vw,Nat.add_zero,lt,lB,lMe,fU,UW,pI,qI,rI,vC,xD,Nat.zero_add,List.map_cons,List.map_nil];rfl
theorem aga{x:ah}(h:Di x=false):rX x=QF:=if_neg (by rw[h];decide)
theorem amu{x:ah}(h:Di x=true):rX x=K7 true x:=if_pos h
abbrev Hw:List C:=[.d (.s []),.bF [],.d (.i .i64 0),.d (.s []),.bF [],.bF [],.d (.b false),.d (.b false),.d (.i .i64 0),.d (.s []),.bF [],.bF []]
theorem agb(e:aS)(h:e=QF)(n p q r:Nat)(ok:Bool):Less (.fF [(true,Hw),(false,[.d (.b ok)])]) (.fF [(true,e.cl n p q r),(false,[.d (.b ok)])]):=by
 rw[h];exact(kU.cons (.cons (.refl _) (.cons (dX _) (.cons (.refl _) (.cons (.refl _) (.cons (dX _) (.cons (dX _) (.cons (.refl _) (.cons (.refl _) (.cons (.refl _) (.cons (.refl _) (.cons (dX _) (.cons (dX _) .nil)))))))))))) (.refl _)).less
theorem ajK{b:Bool}{y:ah}(h:b=false\/y.aj.length=3):wK b y=⟨(y.aj.getD 0 eY).aQ,gB (y.aj.getD 1 eY).aj,fP b (y.aj.getD 2 eY)⟩:=by
 unfold wK;rw[if_neg (by rintro⟨e1,e2⟩;rcases h with e|e;(rw[e] at e1;cases e1);exact e2 e)];rfl
theorem agc{y:ah}(h:y.aj.length≠3):wK true y=⟨[],[],nA⟩:=if_pos ⟨rfl,h⟩
theorem XR(x:ah)(n:Nat)(hsz:x.sz<=1048576)(hf:dV x=true/\7<=x.aj.length/\dQ x.aj 0=mh):aF prog 166 [x.v] (.fF [(true,(rX x).cl n (pI (rX x) n) (qI (rX x) n) (rI (rX x) n)),(false,[.d (.b (Di x))])]):=aF.of_le fun S=>by
 have h1:=iB x;have hds:=aah true x;obtain⟨F,hF⟩:∃F,F=K7 true x:=⟨_,rfl⟩;obtain⟨p,hp⟩:∃p,p=pI F n:=⟨_,rfl⟩;obtain⟨q,hq⟩:∃q,q=qI F n:=⟨_,rfl⟩;obtain⟨r,hr0⟩:∃r,r=rI F n:=⟨_,rfl⟩
 have mU:Di x=false->Less (.fF [(true,Hw),(false,[.d (.b false)])]) (.fF [(true,(rX x).cl n (pI (rX x) n) (qI (rX x) n) (rI (rX x) n)),(false,[.d (.b (Di x))])]):=fun e=>by
  rw[e];exact agb _ (aga e) n _ _ _ false
 have uH:=uN hf.1
 have hfo:iE x=true:=by have:=hf.1;unfold dV at this;rw[Bool.and_eq_true] at this;exact this.1
 have hlen:7<=x.aj.length:=hf.2.1;have hr:=gV (l:=x.aj)
 have f1:F.bO=x.aj[1].aQ:=by rw[hF];exact lK (by omega)
 have f2:F.aH=gB x.aj[2].aj:=by rw[hF,<-jO (l:=x.aj) (i:=2) (by omega)];rfl
 have f3:F.bY=fK true x.aj[3]:=by rw[hF,<-jO (l:=x.aj) (i:=3) (by omega)];rfl
 have f4:F.dI=x.aj[4].aj.map (tY true):=by rw[hF,<-jO (l:=x.aj) (i:=4) (by omega)];rfl
 have f5:F.iK=decide ((0:Int)<(x.aj[5].aj.length:Int)):=by rw[hF,<-jO (l:=x.aj) (i:=5) (by omega)];show decide (0<(x.aj.getD 5 eY).aj.length)=_;exact decide_eq_decide.2 (by show _<->((0:Int)<((x.aj.getD 5 eY).aj.length:Int));omega)
 obtain⟨z,hz6⟩:∃z,z=x.aj[6]:=⟨_,rfl⟩
 have f6:F.fJ=decide (0<z.aj.length):=by rw[hF,hz6,<-jO (l:=x.aj) (i:=6) (by omega)];rfl
 have f7:F.bR=if 0<z.aj.length then fK true (gX z.aj 0) else jA:=by rw[hF,hz6,<-jO (l:=x.aj) (i:=6) (by omega)];rfl
 have hzs:=fun i hi=>yI x (i:=i) hi;have hzz:=hzs 6 (by omega);subst hz6;have c2:=qC x.aj[2] (by have:=hzs 2 (by omega);omega) n;have c3:=qD x.aj[3] (n+1) (by have:=hzs 3 (by omega);omega);have c4:=JB x.aj[4] p (p+1) (by have:=hzs 4 (by omega);omega);rw[<-f2] at c2;rw[<-f3] at c3;rw[<-f4] at c4;obtain⟨l,hl⟩:∃l,l=x.aj.drop 7:=⟨_,rfl⟩
 have hll:l.length<=4194304:=by rw[hl,List.length_drop];omega
 have hlm:∀y∈l,y.sz<=1048576/\iE y=true:=fun y hy=>by
  have h2:=List.mem_of_mem_drop (hl▸hy);have:=kT h2;exact⟨by omega,xE (FR hfo (fun e=>by rw[e] at h2;cases h2)) h2⟩
 obtain⟨L,hL⟩:∃L:Nat->Nat,L=fun i=>r+1+lI (((l.map (wK true)).take i).map cO.enc):=⟨_,rfl⟩;obtain⟨T,hT⟩:∃T:Nat->List (List D),T=fun i=>eZ (((l.map (wK true)).take i).map cO.enc) (r+1):=⟨_,rfl⟩
 have hT0:T 0=[]:=by rw[hT];rfl
 have gM:∀i,(T i).length<=i:=fun i=>by rw[hT];simp only[lg,List.length_map];exact List.length_take_le _ _
 have hTr:∀i,∀r∈T i,r.length=11:=fun i=>by
  rw[hT]
  exact xO fun r hr=>by
   obtain⟨z,_,rfl⟩:=List.mem_map.1 hr;exact z.eB
 have hTs:∀i (hi:i<l.length),T i++[fV (wK true l[i]).enc (L i)]=T (i+1):=fun i hi=>by
  have:=BI (e:=cO.enc) (l:=l.map (wK true)) (i:=i) (by rw[List.length_map];exact hi) (r+1);rw[List.getElem_map] at this;rw[hT,hL];exact this
 have hTe:T l.length=lMe F.aN (r+1):=by
  rw[hT];simp only
  rw[List.take_of_length_le (by simp),hF,hl];rfl
 clear hT hL;by_cases hpos:0<x.aj[6].aj.length
 case' pos=>
  refine lq (n) (rs:=[.cell 2 93,.tmp 3]) zmx func166 ntmps166 rfl rfl rfl rfl rfl ?_;refine W1 ?_;refine bD (vG x mh 7 (by omega) (by omega) (by omega)) ?_;simp -implicitDefEqProofs (disch:=omega) only[go_sem,bM hf];refine W3 ?_;refine bD c2 ?_;refine W1 ?_;refine W3 ?_;refine bD c3 ?_;refine W1 ?_;refine W3 ?_;refine bD c4 ?_;refine W1 ?_;refine W3 ?_;refine dS (fun hb=> ?_) (fun hb=> ?_)<;>have h:=hb<;>(try simp only[wf_preprocess] at h)<;>(first|(exfalso;omega)|skip);simp -implicitDefEqProofs (disch:=omega) only[go_sem,hb];refine W3 ?_;rw[if_pos hpos,jO hpos] at f7;have hz0:=yI x.aj[6] hpos;have c7:=qD x.aj[6].aj[0] q (by omega);rw[<-f7] at c7;have f6':F.fJ=true:=f6.trans (decide_eq_true hpos);refine W3 ?_;refine bD c7 ?_;refine W1 ?_;refine⟨⟨by omega,by omega,hr⟩,?_⟩;rw[tC _ _ _ (Nat.le_refl _),<-hl,<-f1,<-f5];refine W1 ?_;refine oW r 3 11 11 _ rfl rfl ?_;refine qx (st':=[.seed n,.box [.d (.s x.aQ),.d (.sl (x.aj.map ah.enc))],.box Hw,.box [.d (.s F.bO),.d (.ol n (F.aH.map encS)),.d (.i .i64 F.bY.aM),.d (.s F.bY.fName),.d (.ol (n+1) (lt F.bY.fArgs (n+1+1))),.d (.ol p (lB F.dI (p+1))),.d (.b F.iK),.d (.b F.fJ),.d (.i .i64 F.bR.aM),.d (.s F.bR.fName),.d (.ol q (lt F.bR.fArgs (q+1))),.bI (0,4) []],.eG r 11 []]::S) [1,2,5,54,55,56] [.c (.ptr (0,1) 0),.c (.ptr (0,2) 0),.c (.ptr (0,3) 0),.c (.d (.sl (l.map ah.enc))),.c (.d (.i .i64 l.length)),.c (.d (.i .i64 0))] ?_ ?_ ?_
  ·rfl
  ·rw[f6'];rfl
 case' neg=>
  refine lq (n) (rs:=[.cell 2 93,.tmp 3]) zmx func166 ntmps166 rfl rfl rfl rfl rfl ?_;refine W1 ?_;refine bD (vG x mh 7 (by omega) (by omega) (by omega)) ?_;simp -implicitDefEqProofs (disch:=omega) only[go_sem,bM hf];refine W3 ?_;refine bD c2 ?_;refine W1 ?_;refine W3 ?_;refine bD c3 ?_;refine W1 ?_;refine W3 ?_;refine bD c4 ?_;refine W1 ?_;refine W3 ?_;refine dS (fun hb=> ?_) (fun hb=> ?_)<;>have h:=hb<;>(try simp only[wf_preprocess] at h)<;>(first|(exfalso;omega)|skip);simp -implicitDefEqProofs (disch:=omega) only[go_sem,hb];refine W3 ?_;rw[if_neg hpos] at f7;have f6':F.fJ=false:=f6.trans (decide_eq_false hpos);refine⟨⟨by omega,by omega,hr⟩,?_⟩;rw[tC _ _ _ (Nat.le_refl _),<-hl,<-f1,<-f5];refine W1 ?_;refine Qg 3 _ _ rfl (KG (dX q) 10 _ rfl) ?_;refine oW r 3 11 11 _ rfl rfl ?_;refine qx (st':=[.seed n,.box [.d (.s x.aQ),.d (.sl (x.aj.map ah.enc))],.box Hw,.box [.d (.s F.bO),.d (.ol n (F.aH.map encS)),.d (.i .i64 F.bY.aM),.d (.s F.bY.fName),.d (.ol (n+1) (lt F.bY.fArgs (n+1+1))),.d (.ol p (lB F.dI (p+1))),.d (.b F.iK),.d (.b F.fJ),.d (.i .i64 F.bR.aM),.d (.s F.bR.fName),.d (.ol q (lt F.bR.fArgs (q+1))),.bI (0,4) []],.eG r 11 []]::S) [1,2,5,54,55,56] [.c (.ptr (0,1) 0),.c (.ptr (0,2) 0),.c (.ptr (0,3) 0),.c (.d (.sl (l.map ah.enc))),.c (.d (.i .i64 l.length)),.c (.d (.i .i64 0))] ?_ ?_ ?_
  ·rfl
  ·rw[f6',f7];rfl
 all_goals
  refine aZ (ι:=Nat×List (List D)) zmx rfl [1,2,5,54,55,56] (fun y=>[.c (.ptr (0,1) 0),.c (.ptr (0,2) 0),.c (.ptr (0,3) 0),.c (.d (.sl (l.map ah.enc))),.c (.d (.i .i64 l.length)),.c (.d (.i .i64 y.1))])
   (fun y=>[.seed n,.box [.d (.s x.aQ),.d (.sl (x.aj.map ah.enc))],.box Hw,.box [.d (.s F.bO),.d (.ol n (F.aH.map encS)),.d (.i .i64 F.bY.aM),.d (.s F.bY.fName),.d (.ol (n+1) (lt F.bY.fArgs (n+1+1))),.d (.ol p (lB F.dI (p+1))),.d (.b F.iK),.d (.b F.fJ),.d (.i .i64 F.bR.aM),.d (.s F.bR.fName),.d (.ol q (lt F.bR.fArgs (q+1))),.bI (0,4) y.2],.eG r 11 y.2]::S)
   (fun y=>y.1<=l.length/\iH y.2 (T y.1)) (fun y=>l.length-y.1) (0,[]) rfl rfl ⟨Nat.zero_le _,by rw[hT0];exact .nil⟩ ?_
  rintro⟨i,U⟩ ⟨p1,p2⟩;simp only at p1 p2;have hU1:=p2.length;have hU2:=gM i;have hU3:=p2.rows (hTr i);refine W1 ?_;refine S0 (fun hb h=>?_) fun hb h=>?_
  ·have hi':i<l.length:=by omega
   obtain⟨hz,ZC⟩:=hlm _ (List.getElem_mem hi');have hs:=hTs i hi';have hz1:=iB l[i];refine W3 ?_;refine S0 (fun hb h=>?_) fun hb h=>?_
   ·have hl3:l[i].aj.length=3:=by omega
    have hd:=ajK (b:=true) (y:=l[i]) (.inr hl3);have g0:l[i].aj.getD 0 eY=l[i].aj[0]:=jO (by omega);have g1:l[i].aj.getD 1 eY=l[i].aj[1]:=jO (by omega);have g2:l[i].aj.getD 2 eY=l[i].aj[2]:=jO (by omega);rw[g0,g1,g2] at hd;rw[hd,XQ] at hs;have hy1:=yI l[i] (i:=1) (by omega);have hy2:=yI l[i] (i:=2) (by omega);refine W3 ?_;refine C1 (qC l[i].aj[1] (by omega) (L i)) ?_;refine W3 ?_;refine C1 (EX l[i].aj[2] (L i+1) (RU ZC (by omega)) (by omega)) ?_;refine W3 ?_;refine bT 5 (by decide) (i+1,_) (by simp only;omega) rfl rfl rfl rfl ⟨by simp only;omega,?_⟩
    simp only
    rw[<-hs];exact p2.snoc (.refl _)
   ·rw[agc (by omega),XQ] at hs;refine bT 5 (by decide) (i+1,_) (by simp only;omega) rfl rfl rfl rfl ⟨by simp only;omega,?_⟩
    simp only
    rw[<-hs];exact p2.snoc (.cons (.refl _) (.cons (nW _) (.cons (.refl _) (.cons (.refl _) (.cons (.refl _) (.cons (.refl _) (.cons (.refl _) (.cons (.refl _) (.cons (nW _) (.cons (nW _) (.cons (nW _) .nil)))))))))))
  ·have hi':i=l.length:=by omega
   subst hi';clear hTs;rw[hTe] at p2
   have hcl:Less (.agg [.d (.s F.bO),.d (.ol n (F.aH.map encS)),.d (.i .i64 F.bY.aM),.d (.s F.bY.fName),.d (.ol (n+1) (lt F.bY.fArgs (n+1+1))),.d (.ol p (lB F.dI (p+1))),.d (.b F.iK),.d (.b F.fJ),.d (.i .i64 F.bR.aM),.d (.s F.bR.fName),.d (.ol q (lt F.bR.fArgs (q+1))),.d (.sl U)]) F.v:=by
    have lab:∀(es:List (List D))(k j:Nat),pO (.d (.ol k (eZ es j))) (.d (.sl es)):=fun es k j w σ S β v h=>(oZ es j).rep (um h);exact(gH.cons (.refl _) (.cons (G8 _ _) (.cons (.refl _) (.cons (.refl _) (.cons (lab _ _ _) (.cons (lab _ _ _) (.cons (.refl _) (.cons (.refl _) (.cons (.refl _) (.cons (.refl _) (.cons (lab _ _ _) (.cons (vX (p2.trans (oZ _ _))) .nil)))))))))))).less
   rw[<-hF] at hds;refine jS (EN F (by omega)) (.cons hcl .nil) ?_;refine W1 ?_;refine S0 (fun hb h=>?_) fun hb h=>?_
   ·exact mU (aR fun e=>by rw[<-hF] at e;rw[e.2.2.1] at h;cases h)
   have hv:=h;have hz:=Hf hv;refine W3 ?_;refine jS (aF.less (EO F 0 hv (by omega)) (zm (pR F) 0)) (.cons hcl .nil) ?_;refine W1 ?_;refine C1 (qM (pR F) x (by omega)) ?_;refine S0 (fun hb h=>?_) fun hb h=>?_
   ·exact mU (aR fun e=>h (by rw[<-hF] at e;exact e.2.2.2))
   ·have hy:Di x=true:=by
     unfold Di;rw[<-hF];exact bM ⟨hf.1,hf.2,hv,h⟩
    rw[amu hy,hy,<-hF,<-hp,<-hq,<-hr0];exact(kU.cons (.cons (.refl _) (.cons (.refl _) (.cons (.refl _) (.cons (.refl _) (.cons (.refl _) (.cons (.refl _) (.cons (.refl _) (.cons (.refl _) (.cons (.refl _) (.cons (.refl _) (.cons (.refl _) (.cons (IZ p2) .nil)))))))))))) (.refl _)).less
theorem XT(x:ah)(n:Nat)(hsz:x.sz<=1048576):aF prog 166 [x.v] (.fF [(true,(rX x).cl n (pI (rX x) n) (qI (rX x) n) (rI (rX x) n)),(false,[.d (.b (Di x))])]):=by
 by_cases hf:dV x=true/\7<=x.aj.length/\dQ x.aj 0=mh
 ·exact XR x n hsz hf
 ·refine aF.of_le fun S=> ?_
  have mU:Di x=false->Less (.fF [(true,Hw),(false,[.d (.b false)])]) (.fF [(true,(rX x).cl n (pI (rX x) n) (qI (rX x) n) (rI (rX x) n)),(false,[.d (.b (Di x))])]):=fun e=>by
   rw[e];exact agb _ (aga e) n _ _ _ false
  refine zcx [.cell 2 93,.tmp 3] func166 ntmps166 ?_;refine W1 ?_;refine C1 (vG x mh 7 (by omega) (by omega) (by omega)) ?_;refine S0 (fun hb h=>?_) fun hb h=>?_
  ·exact mU (aR fun e=>hf ⟨e.1,e.2.1.1,e.2.1.2⟩)
  ·exact absurd h hf
end Go.Ab