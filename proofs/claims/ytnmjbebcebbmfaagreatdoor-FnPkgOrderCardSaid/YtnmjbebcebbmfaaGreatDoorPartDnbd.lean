/-
  SEVERAL TEXTS IN ONE (merged by program): contracts and models, each with its own heading.
-/
import Derived.Test.YtnmjbebcebbmfaaGreatDoorPartDnbV
import Derived.Test.YtnmjbebcebbmfaaGreatDoorPartDnbb
set_option maxHeartbeats 8000000
open Go.Proofs Go.Proofs.Tryz
set_option linter.unusedSimpArgs false
set_option linter.unusedVariables false
set_option maxRecDepth 4000
namespace Go.Ab
def uW(b:Bool)(y:ah):cO:=if b=true/\y.aj.length≠3 then⟨[],[],mK⟩ else⟨dU y.aj 0,nY y.aj 1,fA b (gX y.aj 2)⟩
def Db(b:Bool)(x:ah):aQ:=
 ⟨dU x.aj 1,nY x.aj 2,dZ b (gX x.aj 3),(gX x.aj 4).aj.map (oO b),decide (0<(gX x.aj 5).aj.length),decide (0<(gX x.aj 6).aj.length),
   if 0<(gX x.aj 6).aj.length then dZ b (gX (gX x.aj 6).aj 0) else jB,(x.aj.drop 7).map (uW b)⟩
theorem ajj{vars:List (List UInt8)}{e:au}(h:nV vars e=true):∀v∈vars,v≠[]:=by
 unfold nV at h;rw[ai] at h;exact Ba h.1
theorem amY(b:Bool){m:cO}(h:nV m.aG m.fBody=true):uW b (pK m)=m:=by
 unfold uW;rw[if_neg (by simp[pK,dD])];show cO.mk m.fName (fD (aR m.aG)) (fA b (fG m.fBody))=m;rw[oL (ajj h),J6 b _ (Iq h)]
theorem inst_more{x:aQ}(h:fB x=true):(∀v∈x.aG,v≠[])/\(x.fu=false->x.bP=jB)/\(∀m∈x.aP,nV m.aG m.fBody=true):=by
 unfold fB xB at h;simp only[ai] at h;obtain⟨⟨_,_,h0,h1,_,_,_,h2,h3,_⟩,h4,_⟩:=h;refine⟨Ba h0,fun ha=> ?_,fun m hm=> ?_⟩
 ·rw[if_neg (by rw[ha];decide)] at h3;exact uy (gD h3)
 ·have h5:=az.1 h4 m hm;unfold nG at h5;simp only[ai] at h5;exact h5.2.2
theorem F5(b:Bool){x:aQ}(h:fB x=true):Db b (qw x)=x:=by
 obtain⟨h1,h2,h3,h4⟩:=oK h;obtain⟨g1,g2,g3⟩:=inst_more h;show aQ.mk x.bO (fD (aR x.aG)) (dZ b (dI x.cB)) ((x.dJ.map rC).map (oO b)) (decide (0<(aR (kU x)).length)) (decide (0<(kV x).length)) (if 0<(kV x).length then dZ b (gX (kV x) 0) else jB) ((x.aP.map pK).map (uW b))=x;rw[oL g1,zu b _ h1,Hu fun c hc=>adi b (h2 c hc),Hu fun c hc=>amY b (g3 c hc),jP]
 have e1:decide (0<(kU x).length)=x.ig:=by unfold kU;cases x.ig<;>rfl
 rw[e1];unfold kV
 cases ha:x.fu with
 |true=>
  rw[if_pos rfl];show aQ.mk _ _ _ _ _ true (dZ b (dI x.bP)) _=x;rw[zu b _ (h3 ha),<-ha]
 |false=>
  rw[if_neg gE];show aQ.mk _ _ _ _ _ false jB _=x;rw[<-g2 ha,<-ha]
noncomputable def y7(x:ah):Bool:=dec (dQ x=true/\(7<=x.aj.length/\dU x.aj 0=kX)/\fB (Db true x)=true/\qw (Db true x)=x)
theorem amZ{x:ah}(hx:x.aj≠[]):y7 x=(dQ x&&dec (CX (Db false x)=x)):=
 aaw hx (fun a h1 h2=>by rw[<-h2];exact⟨F5 true h1,F5 false h1⟩) fun a h=>by rw[<-h];exact⟨by rw[qw,dD];simp[ng],rfl⟩
theorem am0{x:ah}(h:y7 x=true):Db false x=Db true x:=by
 have h1:=gD h
 conv=>lhs;rw[<-h1.2.2.2]
 exact F5 false h1.2.2.1
def OB:aQ:=⟨[],[],jB,[],false,false,jB,[]⟩
noncomputable def qx(x:ah):aQ:=if y7 x=true then Db true x else OB
theorem am1(b:Bool)(y:ah):(uW b y).sz<=y.sz:=by
 have h1:=Ht y.aj;have h2:=qY y;have h3:=qY (gX y.aj 0);have h4:=tu (gX y.aj 1).aj;have h4':=qY (gX y.aj 1);have h5:=FY b (gX y.aj 2);unfold uW;split
 ·simp only[cO.sz,cO.aC,bX,bT,D.sz,au.dY,Bb,aw,aS,al];omega
 ·simp only[cO.sz,cO.aC,bX,bT,D.sz,au.dY,ab,nY,dN,IK];omega
theorem WA(b:Bool):∀l:List ah,aS ((l.map (uW b)).map cO.enc)<=dx l
 |[]=>by simp[aS]
 |y::l=>by
  have h1:=am1 b y;have h2:=WA b l;rw[af,af,aS,dx];simp only[cO.sz] at h1;omega
theorem UR(b:Bool)(x:ah):(Db b x).sz<=x.sz:=by
 have h1:=Ep x.aj;have h2:=qY x;have h3:=qY (gX x.aj 1);have h4:=tu (gX x.aj 2).aj;have h4':=qY (gX x.aj 2);have h5:=A9 b (gX x.aj 3);have h6:=Qw b (gX x.aj 4).aj;have h6':=qY (gX x.aj 4)
 have h7:(if 0<(gX x.aj 6).aj.length then dZ b (gX (gX x.aj 6).aj 0) else jB).sz<=(gX x.aj 6).sz:=by
  have a1:=qY (gX x.aj 6);have a2:=Ht (gX x.aj 6).aj;have a3:=A9 b (gX (gX x.aj 6).aj 0);split
  ·omega
  ·rw[En];omega
 have h8:=WA b (x.aj.drop 7);generalize hz:(if 0<(gX x.aj 6).aj.length then dZ b (gX (gX x.aj 6).aj 0) else jB)=z at h7;simp only[aQ.sz,aQ.aC,bX,bT,D.sz,ak.dY,Db,hz,ab,bk,nY,dN,IK];omega
theorem aaA(x:cO)(n:Nat):fE x.enc n=[.s x.fName,.ol n (x.aG.map encS),.i .i64 x.fBody.aN,.s x.fBody.bO,.s x.fBody.fName,.i .i64 x.fBody.fN,.i .i64 x.fBody.fType.aN,.s x.fBody.fType.fName,.ol (n+1) (lt x.fBody.fType.fArgs (n+1+1)),
 .ol (n+1+(gG x.fBody.fType.fArgs+1)) (lE x.fBody.fArgs (n+1+(gG x.fBody.fType.fArgs+1)+1)),.ol (n+1+(gG x.fBody.fType.fArgs+1)+(l7 x.fBody.fArgs+1)) (lM x.fBody.aX (n+1+(gG x.fBody.fType.fArgs+1)+(l7 x.fBody.fArgs+1)+1))]:=by
 simp only[cO.aC,au.aC,ak.aC,ba,bc,fE,rM,vR,cR,lt,lE,lM,gG,l7,wP,yZ,cG]
def lMe(l:List cO)(n:Nat):List (List D):=eO (l.map cO.enc) n
def pI(x:aQ)(n:Nat):Nat:=n+1+(gG x.cB.fArgs+1)
def qI(x:aQ)(n:Nat):Nat:=pI x n+(XE x.dJ+1)
def rI(x:aQ)(n:Nat):Nat:=qI x n+(gG x.bP.fArgs+1)
abbrev aQ.cl(x:aQ)(n p q r:Nat):List C:=[.d (.s x.bO),.d (.ol n (x.aG.map encS)),.d (.i .i64 x.cB.aN),.d (.s x.cB.fName),.d (.ol (n+1) (lt x.cB.fArgs (n+1+1))),.d (.ol p (lB x.dJ (p+1))),.d (.b x.ig),.d (.b x.fu),
 .d (.i .i64 x.bP.aN),.d (.s x.bP.fName),.d (.ol q (lt x.bP.fArgs (q+1))),.d (.ol r (lMe x.aP (r+1)))]
abbrev aQ.cv(x:aQ):List C:=[.d (.s x.bO),.d (.sl (x.aG.map encS)),.d (.i .i64 x.cB.aN),.d (.s x.cB.fName),.d (.sl (x.cB.fArgs.map ak.enc)),.d (.sl (x.dJ.map bQ.enc)),.d (.b x.ig),.d (.b x.fu),
 .d (.i .i64 x.bP.aN),.d (.s x.bP.fName),.d (.sl (x.bP.fArgs.map ak.enc)),.d (.sl (x.aP.map cO.enc))]
theorem apR(x:aQ)(n:Nat):(fE x.enc n).map C.d=x.cl n (pI x n) (qI x n) (rI x n):=by
 simp only[aQ.aC,ak.aC,ba,bc,fE,rM,vR,cR,lt,lB,lMe,gG,XE,pI,qI,rI,wP,yZ,cG,af,aw];rfl
theorem aaB{x:ah}(h:y7 x=false):qx x=OB:=if_neg (by rw[h];decide)
theorem ado{x:ah}(h:y7 x=true):qx x=Db true x:=if_pos h
abbrev y8:List C:=[.d (.s []),.bH [],.d (.i .i64 0),.d (.s []),.bH [],.bH [],.d (.b false),.d (.b false),.d (.i .i64 0),.d (.s []),.bH [],.bH []]
theorem av2(e:aQ)(h:e=OB)(ok:Bool):Less (.eu [(true,y8),(false,[.d (.b ok)])]) (.eu [(true,e.cv),(false,[.d (.b ok)])]):=by
 rw[h];exact(jr.cons (.cons (.refl _) (.cons (fJ _) (.cons (.refl _) (.cons (.refl _) (.cons (fJ _) (.cons (fJ _) (.cons (.refl _) (.cons (.refl _) (.cons (.refl _) (.cons (.refl _) (.cons (fJ _) (.cons (fJ _) .nil)))))))))))) (.refl _)).less
theorem ajm(e:aQ)(h:e=OB)(n p q r:Nat)(ok:Bool):Less (.eu [(true,y8),(false,[.d (.b ok)])]) (.eu [(true,e.cl n p q r),(false,[.d (.b ok)])]):=by
 rw[h];exact(jr.cons (.cons (.refl _) (.cons (eD _) (.cons (.refl _) (.cons (.refl _) (.cons (eD _) (.cons (eD _) (.cons (.refl _) (.cons (.refl _) (.cons (.refl _) (.cons (.refl _) (.cons (eD _) (.cons (eD _) .nil)))))))))))) (.refl _)).less
theorem aaC{b:Bool}{y:ah}(h:b=false\/y.aj.length=3):uW b y=⟨(y.aj.getD 0 cZ).aI,fD (y.aj.getD 1 cZ).aj,fA b (y.aj.getD 2 cZ)⟩:=by
 unfold uW;rw[if_neg (by rintro⟨e1,e2⟩;rcases h with e|e;(rw[e] at e1;cases e1);exact e2 e)];rfl
theorem ajn{y:ah}(h:y.aj.length≠3):uW true y=⟨[],[],mK⟩:=if_pos ⟨rfl,h⟩
theorem acf(x:ah)(hsz:x.sz<=1048576):aD prog 66 [x.v] (.eu [(true,(qx x).cv),(false,[.d (.b (y7 x))])]):=aD.of_le fun S=>by
 have h1:=eZ x;have hds:=UR false x;have hos:=apq (x:=Db false x) gA;have hgs:=fun i=>wV x i (m:=4194304) gA;obtain⟨l,hl⟩:∃l,l=x.aj.drop 7:=⟨_,rfl⟩
 have hll:l.length<=4194304:=by rw[hl,bk];omega
 have hlm:∀y∈l,y.sz<=4194304:=fun y hy=>by have:=gY (cJ (hl▸hy));omega
 obtain⟨F,hF⟩:∃F,F=Db false x:=⟨_,rfl⟩;obtain⟨z,WB⟩:∃z,z=x.aj.getD 6 cZ:=⟨_,rfl⟩;have hzz:=hgs 6;rw[<-WB] at hzz
 have f1:F.bO=(x.aj.getD 1 cZ).aI:=by rw[hF];rfl
 have f2:F.aG=fD (x.aj.getD 2 cZ).aj:=by rw[hF];rfl
 have f3:F.cB=dZ false (x.aj.getD 3 cZ):=by rw[hF];rfl
 have f4:F.dJ=(x.aj.getD 4 cZ).aj.map (oO false):=by rw[hF];rfl
 have f5:F.ig=decide ((0:Int)<((x.aj.getD 5 cZ).aj.length:Int)):=by rw[hF];show decide (0<(x.aj.getD 5 cZ).aj.length)=_;exact decide_eq_decide.2 gA
 have f6:F.fu=decide (0<z.aj.length):=by rw[hF,WB];rfl
 have f7:F.bP=if 0<z.aj.length then dZ false (gX z.aj 0) else jB:=by rw[hF,WB];rfl
 obtain⟨T,hT⟩:∃T:Nat->List (List D),T=fun i=>((l.map (uW false)).take i).map cO.enc:=⟨_,rfl⟩
 have hT0:T 0=[]:=by rw[hT];rfl
 have fZ:∀i,(T i).length<=i:=fun i=>by rw[hT];simp only[ab];exact bi _ _
 have hTs:∀i (hi:i<l.length),T i++[(uW false l[i]).enc]=T (i+1):=fun i hi=>by
  have:=FN (e:=cO.enc) (l:=l.map (uW false)) (i:=i) hJ;rw[bp] at this;rw[hT];exact this
 have hTe:T l.length=F.aP.map cO.enc:=by
  rw[hT];simp only
  rw[aE gL,hF,hl];rfl
 clear hT
 have gH:y7 x=false->Less (.eu [(true,y8),(false,[.d (.b false)])]) (.eu [(true,(qx x).cv),(false,[.d (.b (y7 x))])]):=fun e=>by
  rw[e];exact av2 _ (aaB e) false
 have c2:=uf _ (hgs 2);have c3:=qX (x.aj.getD 3 cZ) (hgs 3);have c4:=LB _ (hgs 4);rw[<-f2] at c2;rw[<-f3] at c3;rw[<-f4] at c4;refine(show Hold ?T->_ from fun tail=> ?main) ?tp
 case' main=>
  refine zcx [.cell 2 77,.tmp 3] func66 ntmps66 ?_;refine W1 ?_;refine C1 (fU x 1 gA gA) ?_;refine C1 (fU x 2 gA gA) ?_;refine bn c2 ?_;refine W1 ?_;refine C1 (fU x 3 gA gA) ?_;refine bn c3 ?_;refine W1 ?_;refine C1 (fU x 4 gA gA) ?_;refine bn c4 ?_;refine W1 ?_;refine C1 (fU x 5 gA gA) ?_;refine W3 ?_;refine C1 (fU x 6 gA gA) ?_;rw[<-WB];refine S0 (fun hb h=>?_) fun hb h=>?_
  ·have hpos:0<z.aj.length:=gA
   rw[if_pos hpos,jR hpos] at f7;have hz0:=zw z hpos;have c7:=qX z.aj[0] gA;rw[<-f7] at c7;have f6':F.fu=true:=f6.trans (decide_eq_true hpos);refine W3 ?_;refine bn c7 ?_;refine W1 ?_;refine W3 ?_;refine C1 (zQ x 7 gA) ?_;rw[<-hl,<-f1,<-f5];refine kJ 2 11 11 _ rfl rfl ?_
   refine oD (st':=[.box [.d (.s x.aI),.d (.sl (x.aj.map ah.enc))],.box y8,.box [.d (.s F.bO),.d (.sl (F.aG.map encS)),.d (.i .i64 F.cB.aN),.d (.s F.cB.fName),.d (.sl (F.cB.fArgs.map ak.enc)),.d (.sl (F.dJ.map bQ.enc)),.d (.b F.ig),.d (.b F.fu),.d (.i .i64 F.bP.aN),.d (.s F.bP.fName),.d (.sl (F.bP.fArgs.map ak.enc)),.bJ (0,4) []],
    .box [.d (.s z.aI),.d (.sl (z.aj.map ah.enc))],.tok 11 []]::S) [1,2,4,6,7] [.c (.ptr (0,0) 0),.c (.ptr (0,1) 0),.c (.ptr (0,2) 0),.c (.d (.sl (l.map ah.enc))),.c (.d (.i .i64 0))] ?_ ?_ ?_
   ·rfl
   ·rw[f6'];rfl
   ·exact tail.out
  ·have hpos:¬0<z.aj.length:=gA
   rw[if_neg hpos] at f7;have f6':F.fu=false:=f6.trans (decide_eq_false hpos);refine C1 (zQ x 7 gA) ?_;rw[<-hl,<-f1,<-f5];refine KU 2 _ _ rfl (Iu (fJ []) 10 _ rfl) ?_;refine kJ 2 11 11 _ rfl rfl ?_
   refine oD (st':=[.box [.d (.s x.aI),.d (.sl (x.aj.map ah.enc))],.box y8,.box [.d (.s F.bO),.d (.sl (F.aG.map encS)),.d (.i .i64 F.cB.aN),.d (.s F.cB.fName),.d (.sl (F.cB.fArgs.map ak.enc)),.d (.sl (F.dJ.map bQ.enc)),.d (.b F.ig),.d (.b F.fu),.d (.i .i64 F.bP.aN),.d (.s F.bP.fName),.d (.sl (F.bP.fArgs.map ak.enc)),.bJ (0,4) []],
    .box [.d (.s z.aI),.d (.sl (z.aj.map ah.enc))],.tok 11 []]::S) [1,2,4,6,7] [.c (.ptr (0,0) 0),.c (.ptr (0,1) 0),.c (.ptr (0,2) 0),.c (.d (.sl (l.map ah.enc))),.c (.d (.i .i64 0))] ?_ ?_ ?_
   ·rfl
   ·rw[f6',f7];rfl
   ·exact tail.out
 refine⟨?_⟩
 refine aZ (ι:=Nat) zmx rfl [1,2,4,6,7] (fun i=>[.c (.ptr (0,0) 0),.c (.ptr (0,1) 0),.c (.ptr (0,2) 0),.c (.d (.sl (l.map ah.enc))),.c (.d (.i .i64 i))])
  (fun i=>[.box [.d (.s x.aI),.d (.sl (x.aj.map ah.enc))],.box y8,.box [.d (.s F.bO),.d (.sl (F.aG.map encS)),.d (.i .i64 F.cB.aN),.d (.s F.cB.fName),.d (.sl (F.cB.fArgs.map ak.enc)),.d (.sl (F.dJ.map bQ.enc)),.d (.b F.ig),.d (.b F.fu),.d (.i .i64 F.bP.aN),.d (.s F.bP.fName),.d (.sl (F.bP.fArgs.map ak.enc)),.bJ (0,4) (T i)],
    .box [.d (.s z.aI),.d (.sl (z.aj.map ah.enc))],.tok 11 (T i)]::S)
  (fun i=>i<=l.length) (fun i=>l.length-i) 0 rfl (by rw[hT0]) (an _) ?_
 intro i hi;have hl':=fZ i;refine W1 ?_;refine S0 (fun hb h=>?_) fun hb h=>?_
 ·have hi':i<l.length:=gA
  have hz:=hlm _ (ac hi');have hs:=hTs i hi';have hg:=fun k=>wV l[i] k hz;rw[aaC (b:=false) (.inl rfl)] at hs;simp only[cO.aC,au.aC,ak.aC,ba,bc] at hs;refine W3 ?_;refine C1 (fU l[i] 0 hz gA) ?_;refine W3 ?_;refine C1 (fU l[i] 1 hz gA) ?_;refine C1 (uf _ (hg 1)) ?_;refine W3 ?_;refine C1 (fU l[i] 2 hz gA) ?_;refine C1 (Jl (l[i].aj.getD 2 cZ) (hg 2)) ?_;refine W3 ?_;rw[hs];exact bR 5 gE (i+1) gA rfl rfl rfl rfl gA
 ·have hi':i=l.length:=gA
  subst hi';rw[hTe];clear hTs;refine C1 (pz x gA) ?_;refine S0 (fun hb h=>?_) fun hb h=>?_
  ·exact gH (aO fun e=>by rw[e.1] at h;cases h)
  have hv:=h;refine S0 (fun hb h=>?_) fun hb h=>?_
  ·exact gH (aO fun e=>gA)
  have hne:x.aj≠[]:=fun e=>by rw[e] at h;exact h rfl
  have hok:=amZ hne;rw[hv,cd] at hok;rw[<-hF] at hok hos hds;refine W3 ?_;refine C1 (Qp F gA) ?_;refine C1 (vF (CX F) x gA) ?_;refine S0 (fun hb h=>?_) fun hb h=>?_
  ·exact gH (by rw[hok];exact aO h)
  ·have hy:y7 x=true:=by rw[hok];exact bK h
   rw[ado hy,hy,<-am0 hy,<-hF];exact gV _
theorem aaE(x:ah)(n:Nat)(hsz:x.sz<=1048576)(hf:dQ x=true/\7<=x.aj.length/\dU x.aj 0=kX):aD prog 59 [x.v] (.eu [(true,(qx x).cl n (pI (qx x) n) (qI (qx x) n) (rI (qx x) n)),(false,[.d (.b (y7 x))])]):=aD.of_le fun S=>by
 have h1:=eZ x;have hds:=UR true x;obtain⟨F,hF⟩:∃F,F=Db true x:=⟨_,rfl⟩;obtain⟨p,hp⟩:∃p,p=pI F n:=⟨_,rfl⟩;obtain⟨q,hq⟩:∃q,q=qI F n:=⟨_,rfl⟩;obtain⟨r,hr0⟩:∃r,r=rI F n:=⟨_,rfl⟩
 have gH:y7 x=false->Less (.eu [(true,y8),(false,[.d (.b false)])]) (.eu [(true,(qx x).cl n (pI (qx x) n) (qI (qx x) n) (rI (qx x) n)),(false,[.d (.b (y7 x))])]):=fun e=>by
  rw[e];exact ajm _ (aaB e) n _ _ _ false
 have vV:=qN hf.1
 have hfo:iG x=true:=by have:=hf.1;unfold dQ at this;rw[ai] at this;exact this.1
 have hlen:7<=x.aj.length:=hf.2.1;have hr:=gK (l:=x.aj)
 have f1:F.bO=x.aj[1].aI:=by rw[hF];exact j4 gA
 have f2:F.aG=fD x.aj[2].aj:=by rw[hF,<-jR (l:=x.aj) (i:=2) gA];rfl
 have f3:F.cB=dZ true x.aj[3]:=by rw[hF,<-jR (l:=x.aj) (i:=3) gA];rfl
 have f4:F.dJ=x.aj[4].aj.map (oO true):=by rw[hF,<-jR (l:=x.aj) (i:=4) gA];rfl
 have f5:F.ig=decide ((0:Int)<(x.aj[5].aj.length:Int)):=by rw[hF,<-jR (l:=x.aj) (i:=5) gA];show decide (0<(x.aj.getD 5 cZ).aj.length)=_;exact decide_eq_decide.2 (by show _<->((0:Int)<((x.aj.getD 5 cZ).aj.length:Int));omega)
 obtain⟨z,WB⟩:∃z,z=x.aj[6]:=⟨_,rfl⟩
 have f6:F.fu=decide (0<z.aj.length):=by rw[hF,WB,<-jR (l:=x.aj) (i:=6) gA];rfl
 have f7:F.bP=if 0<z.aj.length then dZ true (gX z.aj 0) else jB:=by rw[hF,WB,<-jR (l:=x.aj) (i:=6) gA];rfl
 have hzs:=fun i hi=>zw x (i:=i) hi;have hzz:=hzs 6 gA;subst WB;have c2:=rU x.aj[2] (by have:=hzs 2 gA;omega) n;have c3:=rV x.aj[3] (n+1) (by have:=hzs 3 gA;omega);have c4:=LC x.aj[4] p (p+1) (by have:=hzs 4 gA;omega);rw[<-f2] at c2;rw[<-f3] at c3;rw[<-f4] at c4;obtain⟨l,hl⟩:∃l,l=x.aj.drop 7:=⟨_,rfl⟩
 have hll:l.length<=4194304:=by rw[hl,bk];omega
 have hlm:∀y∈l,y.sz<=1048576/\iG y=true:=fun y hy=>by
  have h2:=cJ (hl▸hy);have:=gY h2;exact⟨gA,y5 (IJ hfo (fun e=>by rw[e] at h2;cases h2)) h2⟩
 obtain⟨L,hL⟩:∃L:Nat->Nat,L=fun i=>r+1+mH (((l.map (uW true)).take i).map cO.enc):=⟨_,rfl⟩;obtain⟨T,hT⟩:∃T:Nat->List (List D),T=fun i=>eO (((l.map (uW true)).take i).map cO.enc) (r+1):=⟨_,rfl⟩
 have hT0:T 0=[]:=by rw[hT];rfl
 have fZ:∀i,(T i).length<=i:=fun i=>by rw[hT];simp only[kT,ab];exact bi _ _
 have hTr:∀i,∀r∈T i,r.length=11:=fun i=>by
  rw[hT]
  exact zm fun r hr=>by
   obtain⟨z,_,rfl⟩:=cr.1 hr;exact z.dK
 have hTs:∀i (hi:i<l.length),T i++[fE (uW true l[i]).enc (L i)]=T (i+1):=fun i hi=>by
  have:=DC (e:=cO.enc) (l:=l.map (uW true)) (i:=i) hJ (r+1);rw[bp] at this;rw[hT,hL];exact this
 have hTe:T l.length=lMe F.aP (r+1):=by
  rw[hT];simp only
  rw[aE gL,hF,hl];rfl
 clear hT hL;by_cases hpos:0<x.aj[6].aj.length
 case' pos=>
  refine lF (n) (rs:=[.cell 2 77,.tmp 3]) zmx func59 ntmps59 rfl rfl rfl rfl rfl ?_;refine W1 ?_;refine bn (wU x kX 7 gA gA gA) ?_;simp -implicitDefEqProofs (disch:=omega) only[go_sem,bK hf];refine W3 ?_;refine bn c2 ?_;refine W1 ?_;refine W3 ?_;refine bn c3 ?_;refine W1 ?_;refine W3 ?_;refine bn c4 ?_;refine W1 ?_;refine W3 ?_;refine qJ (fun hb=> ?_) (fun hb=> ?_)<;>have h:=hb<;>(try simp only[wf_preprocess] at h)<;>(first|(exfalso;omega)|skip);simp -implicitDefEqProofs (disch:=omega) only[go_sem,hb];refine W3 ?_;rw[if_pos hpos,jR hpos] at f7;have hz0:=zw x.aj[6] hpos;have c7:=rV x.aj[6].aj[0] q gA;rw[<-f7] at c7;have f6':F.fu=true:=f6.trans (decide_eq_true hpos);refine W3 ?_;refine bn c7 ?_;refine W1 ?_;refine⟨⟨gA,gA,hr⟩,?_⟩;rw[pJ _ _ _ (ax _),<-hl,<-f1,<-f5];refine W1 ?_;refine oG r 3 11 11 _ rfl rfl ?_;refine oD (st':=[.seed n,.box [.d (.s x.aI),.d (.sl (x.aj.map ah.enc))],.box y8,.box [.d (.s F.bO),.d (.ol n (F.aG.map encS)),.d (.i .i64 F.cB.aN),.d (.s F.cB.fName),.d (.ol (n+1) (lt F.cB.fArgs (n+1+1))),.d (.ol p (lB F.dJ (p+1))),.d (.b F.ig),.d (.b F.fu),.d (.i .i64 F.bP.aN),.d (.s F.bP.fName),.d (.ol q (lt F.bP.fArgs (q+1))),.bJ (0,4) []],.eP r 11 []]::S) [1,2,5,54,55,56] [.c (.ptr (0,1) 0),.c (.ptr (0,2) 0),.c (.ptr (0,3) 0),.c (.d (.sl (l.map ah.enc))),.c (.d (.i .i64 l.length)),.c (.d (.i .i64 0))] ?_ ?_ ?_
  ·rfl
  ·rw[f6'];rfl
 case' neg=>
  refine lF (n) (rs:=[.cell 2 77,.tmp 3]) zmx func59 ntmps59 rfl rfl rfl rfl rfl ?_;refine W1 ?_;refine bn (wU x kX 7 gA gA gA) ?_;simp -implicitDefEqProofs (disch:=omega) only[go_sem,bK hf];refine W3 ?_;refine bn c2 ?_;refine W1 ?_;refine W3 ?_;refine bn c3 ?_;refine W1 ?_;refine W3 ?_;refine bn c4 ?_;refine W1 ?_;refine W3 ?_;refine qJ (fun hb=> ?_) (fun hb=> ?_)<;>have h:=hb<;>(try simp only[wf_preprocess] at h)<;>(first|(exfalso;omega)|skip);simp -implicitDefEqProofs (disch:=omega) only[go_sem,hb];refine W3 ?_;rw[if_neg hpos] at f7;have f6':F.fu=false:=f6.trans (decide_eq_false hpos);refine⟨⟨gA,gA,hr⟩,?_⟩;rw[pJ _ _ _ (ax _),<-hl,<-f1,<-f5];refine W1 ?_;refine KU 3 _ _ rfl (Iu (eD q) 10 _ rfl) ?_;refine oG r 3 11 11 _ rfl rfl ?_;refine oD (st':=[.seed n,.box [.d (.s x.aI),.d (.sl (x.aj.map ah.enc))],.box y8,.box [.d (.s F.bO),.d (.ol n (F.aG.map encS)),.d (.i .i64 F.cB.aN),.d (.s F.cB.fName),.d (.ol (n+1) (lt F.cB.fArgs (n+1+1))),.d (.ol p (lB F.dJ (p+1))),.d (.b F.ig),.d (.b F.fu),.d (.i .i64 F.bP.aN),.d (.s F.bP.fName),.d (.ol q (lt F.bP.fArgs (q+1))),.bJ (0,4) []],.eP r 11 []]::S) [1,2,5,54,55,56] [.c (.ptr (0,1) 0),.c (.ptr (0,2) 0),.c (.ptr (0,3) 0),.c (.d (.sl (l.map ah.enc))),.c (.d (.i .i64 l.length)),.c (.d (.i .i64 0))] ?_ ?_ ?_
  ·rfl
  ·rw[f6',f7];rfl
 all_goals
  refine aZ (ι:=Nat×List (List D)) zmx rfl [1,2,5,54,55,56] (fun y=>[.c (.ptr (0,1) 0),.c (.ptr (0,2) 0),.c (.ptr (0,3) 0),.c (.d (.sl (l.map ah.enc))),.c (.d (.i .i64 l.length)),.c (.d (.i .i64 y.1))])
   (fun y=>[.seed n,.box [.d (.s x.aI),.d (.sl (x.aj.map ah.enc))],.box y8,.box [.d (.s F.bO),.d (.ol n (F.aG.map encS)),.d (.i .i64 F.cB.aN),.d (.s F.cB.fName),.d (.ol (n+1) (lt F.cB.fArgs (n+1+1))),.d (.ol p (lB F.dJ (p+1))),.d (.b F.ig),.d (.b F.fu),.d (.i .i64 F.bP.aN),.d (.s F.bP.fName),.d (.ol q (lt F.bP.fArgs (q+1))),.bJ (0,4) y.2],.eP r 11 y.2]::S)
   (fun y=>y.1<=l.length/\jd y.2 (T y.1)) (fun y=>l.length-y.1) (0,[]) rfl rfl ⟨an _,by rw[hT0];exact .nil⟩ ?_
  rintro⟨i,U⟩ ⟨p1,p2⟩;simp only at p1 p2;have hU1:=p2.length;have hU2:=fZ i;have hU3:=p2.rows (hTr i);refine W1 ?_;refine S0 (fun hb h=>?_) fun hb h=>?_
  ·have hi':i<l.length:=gA
   obtain⟨hz,hfy⟩:=hlm _ (ac hi');have hs:=hTs i hi';have hz1:=eZ l[i];refine W3 ?_;refine S0 (fun hb h=>?_) fun hb h=>?_
   ·have hl3:l[i].aj.length=3:=gA
    have hd:=aaC (b:=true) (y:=l[i]) (.inr hl3);have g0:l[i].aj.getD 0 cZ=l[i].aj[0]:=jR gA;have g1:l[i].aj.getD 1 cZ=l[i].aj[1]:=jR gA;have g2:l[i].aj.getD 2 cZ=l[i].aj[2]:=jR gA;rw[g0,g1,g2] at hd;rw[hd,aaA] at hs;have hy1:=zw l[i] (i:=1) gA;have hy2:=zw l[i] (i:=2) gA;refine W3 ?_;refine C1 (rU l[i].aj[1] gA (L i)) ?_;refine W3 ?_;refine C1 (Hr l[i].aj[2] (L i+1) (UO hfy gA) gA) ?_;refine W3 ?_;refine bR 5 gE (i+1,_) gC rfl rfl rfl rfl ⟨gC,?_⟩
    simp only
    rw[<-hs];exact p2.snoc (.refl _)
   ·rw[ajn gA,aaA] at hs;refine bR 5 gE (i+1,_) gC rfl rfl rfl rfl ⟨gC,?_⟩
    simp only
    rw[<-hs];exact p2.snoc (.cons (.refl _) (.cons (oV _) (.cons (.refl _) (.cons (.refl _) (.cons (.refl _) (.cons (.refl _) (.cons (.refl _) (.cons (.refl _) (.cons (oV _) (.cons (oV _) (.cons (oV _) .nil)))))))))))
  ·have hi':i=l.length:=gA
   subst hi';clear hTs;rw[hTe] at p2
   have hcl:Less (.agg [.d (.s F.bO),.d (.ol n (F.aG.map encS)),.d (.i .i64 F.cB.aN),.d (.s F.cB.fName),.d (.ol (n+1) (lt F.cB.fArgs (n+1+1))),.d (.ol p (lB F.dJ (p+1))),.d (.b F.ig),.d (.b F.fu),.d (.i .i64 F.bP.aN),.d (.s F.bP.fName),.d (.ol q (lt F.bP.fArgs (q+1))),.d (.sl U)]) F.v:=by
    have lab:∀(es:List (List D))(k j:Nat),pW (.d (.ol k (eO es j))) (.d (.sl es)):=fun es k j w σ S β v h=>(qE es j).rep (vI h);exact(fP.cons (.refl _) (.cons (JW _ _) (.cons (.refl _) (.cons (.refl _) (.cons (lab _ _ _) (.cons (lab _ _ _) (.cons (.refl _) (.cons (.refl _) (.cons (.refl _) (.cons (.refl _) (.cons (lab _ _ _) (.cons (xK (p2.trans (qE _ _))) .nil)))))))))))).less
   rw[<-hF] at hds;refine lQ (GY F gA) (.cons hcl .nil) ?_;refine W1 ?_;refine S0 (fun hb h=>?_) fun hb h=>?_
   ·exact gH (aO fun e=>by rw[<-hF] at e;rw[e.2.2.1] at h;cases h)
   have hv:=h;have hz:=JZ hv;refine W3 ?_;refine lQ (aD.less (GZ F 0 hv gA) (AO (qw F) 0)) (.cons hcl .nil) ?_;refine W1 ?_;refine C1 (r9 (qw F) x gA) ?_;refine S0 (fun hb h=>?_) fun hb h=>?_
   ·exact gH (aO fun e=>h (by rw[<-hF] at e;exact e.2.2.2))
   ·have hy:y7 x=true:=by
     unfold y7;rw[<-hF];exact bK ⟨hf.1,hf.2,hv,h⟩
    rw[ado hy,hy,<-hF,<-hp,<-hq,<-hr0];exact(jr.cons (.cons (.refl _) (.cons (.refl _) (.cons (.refl _) (.cons (.refl _) (.cons (.refl _) (.cons (.refl _) (.cons (.refl _) (.cons (.refl _) (.cons (.refl _) (.cons (.refl _) (.cons (.refl _) (.cons (KV p2) .nil)))))))))))) (.refl _)).less
theorem aaF(x:ah)(n:Nat)(hsz:x.sz<=1048576):aD prog 59 [x.v] (.eu [(true,(qx x).cl n (pI (qx x) n) (qI (qx x) n) (rI (qx x) n)),(false,[.d (.b (y7 x))])]):=by
 by_cases hf:dQ x=true/\7<=x.aj.length/\dU x.aj 0=kX
 ·exact aaE x n hsz hf
 ·refine aD.of_le fun S=> ?_
  have gH:y7 x=false->Less (.eu [(true,y8),(false,[.d (.b false)])]) (.eu [(true,(qx x).cl n (pI (qx x) n) (qI (qx x) n) (rI (qx x) n)),(false,[.d (.b (y7 x))])]):=fun e=>by
   rw[e];exact ajm _ (aaB e) n _ _ _ false
  refine zcx [.cell 2 77,.tmp 3] func59 ntmps59 ?_;refine W1 ?_;refine C1 (wU x kX 7 gA gA gA) ?_;refine S0 (fun hb h=>?_) fun hb h=>?_
  ·exact gH (aO fun e=>hf ⟨e.1,e.2.1.1,e.2.1.2⟩)
  ·exact absurd h hf
end Go.Ab