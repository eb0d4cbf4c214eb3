/-
  SEVERAL TEXTS IN ONE (merged by program): contracts and models, each with its own heading.
-/
import Derived.Test.YtnmjbebcebbmfaaGreatDoorPartDnbT
import Derived.Test.YtnmjbebcebbmfaaGreatDoorPartDnbb
open Go.Proofs Go.Proofs.Tryz
set_option linter.unusedSimpArgs false
set_option linter.unusedVariables false
set_option maxRecDepth 4000
namespace Go.Ab
def UU:bg:=⟨[],[],jB,false,[],mK⟩
def zR(b:Bool)(l:List ah):Bool:=match b with
 |true=>decide (l.length=5)
 |false=>decide (3<l.length)
def kr(b:Bool)(y:ah):bg:=if b=true/\y.aj.length<3 then UU else
 ⟨dU y.aj 0,(gX y.aj 1).aj.map (dZ b),dZ b (gX y.aj 2),zR b y.aj,if zR b y.aj=true then nY y.aj 3 else [],if zR b y.aj=true then fA b (gX y.aj 4) else mK⟩
def uh(b:Bool)(x:ah):bI:=
 ⟨dU x.aj 1,nY x.aj 2,decide (vE∈nY x.aj 3),decide (jm∈nY x.aj 3),(x.aj.drop 4).map (kr b)⟩
theorem ajo{g:bg}(h:iZ g=true):(g.ji=true->∀v∈g.aG,v≠[])/\(g.ji=false->g.aG=[]/\g.fBody=mK):=by
 unfold iZ at h;simp only[ai] at h;obtain⟨_,_,_,_,h3⟩:=h;refine⟨fun hd=> ?_,fun hd=> ?_⟩
 ·rw[if_pos hd,ai] at h3;have:=h3.2;unfold nV at this;rw[ai] at this;exact Ba this.1
 ·rw[if_neg (by rw[hd];decide),ai] at h3;exact⟨bz (gD h3.1),gD h3.2⟩
theorem ajp(b:Bool){g:bg}(h:iZ g=true):kr b (oH g)=g:=by
 obtain⟨h1,h2,h3⟩:=tq h;obtain⟨h4,h5⟩:=ajo h;unfold kr
 cases hd:g.ji with
 |true=>
  rw[CJ hd,if_neg gL]
  have e:zR b [bN g.fName,bL (g.bG.map dI),dI g.dh,bL (aR g.aG),fG g.fBody]=true:=by cases b<;>rfl
  rw[e,if_pos rfl,if_pos rfl];show bg.mk g.fName ((g.bG.map dI).map (dZ b)) (dZ b (dI g.dh)) true (fD (aR g.aG)) (fA b (fG g.fBody))=g;rw[Ji b h1,zu b _ h2,oL (h4 hd),J6 b _ (h3 hd),<-hd]
 |false=>
  rw[CK hd,if_neg gL]
  have e:zR b [bN g.fName,bL (g.bG.map dI),dI g.dh]=false:=by cases b<;>rfl
  rw[e,if_neg gE,if_neg gE];show bg.mk g.fName ((g.bG.map dI).map (dZ b)) (dZ b (dI g.dh)) false [] mK=g;obtain⟨e1,e2⟩:=h5 hd;rw[Ji b h1,zu b _ h2,<-e2]
  conv=>lhs;rw[<-e1,<-hd]
theorem UW{t:bI}(h:dW t=true):∀v∈t.bU,v≠[]:=by
 unfold dW at h;simp only[ai] at h;exact Ba h.2.2.1
theorem ajq(t:bI):∀v∈mh t,v≠[]:=fun v hv=>by
 unfold mh at hv;rw[dm] at hv;rcases hv with h|h
 ·split at h
  ·rw[ej.1 h];decide
  ·cases h
 ·split at h
  ·rw[ej.1 h];decide
  ·cases h
theorem TH(t:bI):decide (vE∈mh t)=t.pR/\decide (jm∈mh t)=t.bP:=by
 unfold mh;cases t.pR<;>cases t.bP<;>exact⟨gE,gE⟩
theorem Dc(b:Bool){t:bI}(h:dW t=true):uh b (kF t)=t:=by
 have h1:=(jW h).1;show bI.mk t.fName (fD (aR t.bU)) (decide (vE∈fD (aR (mh t)))) (decide (jm∈fD (aR (mh t)))) ((t.aA.map oH).map (kr b))=t;rw[oL (UW h),oL (ajq t),(TH t).1,(TH t).2,Hu fun c hc=>ajp b (h1 c hc)]
noncomputable def wW(x:ah):Bool:=dec (dQ x=true/\(4<=x.aj.length/\dU x.aj 0=kE)/\dW (uh true x)=true/\kF (uh true x)=x)
theorem ajr{x:ah}(hx:x.aj≠[]):wW x=(dQ x&&dec (wQ (uh false x)=x)):=
 aaw hx (fun a h1 h2=>by rw[<-h2];exact⟨Dc true h1,Dc false h1⟩) fun a h=>by rw[<-h];exact⟨by rw[kF,dD];simp[jq],rfl⟩
theorem ajs{x:ah}(h:wW x=true):uh false x=uh true x:=by
 have h1:=gD h
 conv=>lhs;rw[<-h1.2.2.2]
 exact Dc false h1.2.2.1
def ND:bI:=⟨[],[],false,false,[]⟩
noncomputable def um(x:ah):bI:=if wW x=true then uh true x else ND
theorem am2(b:Bool)(l:List ah):aS ((l.map (dZ b)).map ak.enc)<=dx l:=by
 have:=K7 b l;rw[A8] at this;rw[Cy];exact this
theorem ajt(b:Bool)(y:ah):(kr b y).sz<=y.sz:=by
 have h1:=Ep y.aj;have h2:=qY y;have h3:=qY (gX y.aj 0);have h4:=am2 b (gX y.aj 1).aj;have h4':=qY (gX y.aj 1);have h5:=A9 b (gX y.aj 2);have h6:=tu (gX y.aj 3).aj;have h6':=qY (gX y.aj 3);have h7:=FY b (gX y.aj 4);unfold kr;split
 ·simp only[UU,bg.sz,bg.aC,bX,bT,D.sz,ak.dY,au.dY,En,Bb,aw,aS,al];omega
 ·cases zR b y.aj with
  |true=>
   simp only[if_true,bg.sz,bg.aC,bX,bT,D.sz,ak.dY,au.dY,ab,nY,dN,IK];omega
  |false=>
   simp only[cP,if_false,bg.sz,bg.aC,bX,bT,D.sz,ak.dY,au.dY,ab,Bb,aw,aS,al,IK];omega
theorem TI(b:Bool):∀l:List ah,aS ((l.map (kr b)).map bg.enc)<=dx l
 |[]=>by simp[aS]
 |y::l=>by
  have h1:=ajt b y;have h2:=TI b l;rw[af,af,aS,dx];simp only[bg.sz] at h1;omega
theorem Qx(b:Bool)(x:ah):(uh b x).sz<=x.sz:=by
 have h1:=Ht x.aj;have h2:=qY x;have h3:=qY (gX x.aj 1);have h4:=tu (gX x.aj 2).aj;have h4':=qY (gX x.aj 2);have h5:=TI b (x.aj.drop 4);simp only[bI.sz,bI.aC,bX,bT,D.sz,uh,ab,bk,nY,dN,IK];omega
def q2S(x:bg)(q:Nat):Nat:=q+(gG x.bG+1)
def q3S(x:bg)(q:Nat):Nat:=q2S x q+(gG x.dh.fArgs+1)
def WC(x:bg)(q:Nat):Nat:=q3S x q+1
theorem NG(x:bg)(q:Nat):fE x.enc q=[.s x.fName,.ol q (lt x.bG (q+1)),.i .i64 x.dh.aN,.s x.dh.fName,.ol (q2S x q) (lt x.dh.fArgs (q2S x q+1)),.b x.ji,.ol (q3S x q) (x.aG.map encS),
 .i .i64 x.fBody.aN,.s x.fBody.bO,.s x.fBody.fName,.i .i64 x.fBody.fN,.i .i64 x.fBody.fType.aN,.s x.fBody.fType.fName,.ol (WC x q) (lt x.fBody.fType.fArgs (WC x q+1)),
 .ol (WC x q+(gG x.fBody.fType.fArgs+1)) (lE x.fBody.fArgs (WC x q+(gG x.fBody.fType.fArgs+1)+1)),.ol (WC x q+(gG x.fBody.fType.fArgs+1)+(l7 x.fBody.fArgs+1)) (lM x.fBody.aX (WC x q+(gG x.fBody.fType.fArgs+1)+(l7 x.fBody.fArgs+1)+1))]:=by
 simp only[bg.aC,au.aC,ak.aC,ba,bc,fE,rM,vR,cR,lt,lE,lM,gG,l7,q2S,q3S,WC,wP,yZ,cG]
def am3(l:List bg)(n:Nat):List (List D):=eO (l.map bg.enc) n
abbrev bI.cl(x:bI)(n:Nat):List C:=[.d (.s x.fName),.d (.ol n (x.bU.map encS)),.d (.b x.pR),.d (.b x.bP),.d (.ol (n+1) (am3 x.aA (n+1+1)))]
abbrev bI.cv(x:bI):List C:=[.d (.s x.fName),.d (.sl (x.bU.map encS)),.d (.b x.pR),.d (.b x.bP),.d (.sl (x.aA.map bg.enc))]
theorem aaG(x:bI)(n:Nat):(fE x.enc n).map C.d=x.cl n:=by
 simp only[bI.aC,fE,rM,vR,cR,am3,wP,yZ,cG,af,aw];rfl
theorem aaH(x:bI)(n:Nat):Less (.agg (x.cl n)) x.v:=by
 have:=GK (r:=x.enc) (n:=n);rw[aaG,bI.Ml] at this;exact this
theorem adp{x:ah}(h:wW x=false):um x=ND:=if_neg (by rw[h];decide)
theorem aaI{x:ah}(h:wW x=true):um x=uh true x:=if_pos h
abbrev J9:List C:=[.d (.s []),.bH [],.d (.b false),.d (.b false),.bH []]
theorem atM(e:bI)(h:e=ND)(ok:Bool):Less (.eu [(true,J9),(false,[.d (.b ok)])]) (.eu [(true,e.cv),(false,[.d (.b ok)])]):=by
 rw[h];exact(jr.cons (.cons (.refl _) (.cons (fJ _) (.cons (.refl _) (.cons (.refl _) (.cons (fJ _) .nil))))) (.refl _)).less
theorem apS(e:bI)(h:e=ND)(n:Nat)(ok:Bool):Less (.eu [(true,J9),(false,[.d (.b ok)])]) (.eu [(true,e.cl n),(false,[.d (.b ok)])]):=by
 rw[h];exact(jr.cons (.cons (.refl _) (.cons (eD _) (.cons (.refl _) (.cons (.refl _) (.cons (eD _) .nil))))) (.refl _)).less
theorem acg{y:ah}(h:y.aj.length=5):kr true y=⟨y.aj[0].aI,y.aj[1].aj.map (dZ true),dZ true y.aj[2],true,fD y.aj[3].aj,fA true y.aj[4]⟩:=by
 unfold kr;rw[if_neg gA,show zR true y.aj=true from decide_eq_true h,if_pos rfl,if_pos rfl,j4 gA,jR (by omega:1<y.aj.length),jR (by omega:2<y.aj.length),jR (by omega:4<y.aj.length)];unfold nY;rw[jR (by omega:3<y.aj.length)]
theorem ach{y:ah}(h:3<=y.aj.length)(h5:y.aj.length≠5):kr true y=⟨y.aj[0].aI,y.aj[1].aj.map (dZ true),dZ true y.aj[2],false,[],mK⟩:=by
 unfold kr;rw[if_neg gA,show zR true y.aj=false from decide_eq_false h5,if_neg gE,if_neg gE,j4 gA,jR (by omega:1<y.aj.length),jR (by omega:2<y.aj.length)]
theorem aci{y:ah}(h:y.aj.length<3):kr true y=UU:=if_pos ⟨rfl,h⟩
theorem aaJ{y:ah}(h:3<y.aj.length):kr false y=⟨(y.aj.getD 0 cZ).aI,(y.aj.getD 1 cZ).aj.map (dZ false),dZ false (y.aj.getD 2 cZ),true,fD (y.aj.getD 3 cZ).aj,fA false (y.aj.getD 4 cZ)⟩:=by
 unfold kr;rw[if_neg gL,show zR false y.aj=true from decide_eq_true h];rfl
theorem aaK{y:ah}(h:¬3<y.aj.length):kr false y=⟨(y.aj.getD 0 cZ).aI,(y.aj.getD 1 cZ).aj.map (dZ false),dZ false (y.aj.getD 2 cZ),false,[],mK⟩:=by
 unfold kr;rw[if_neg gL,show zR false y.aj=false from decide_eq_false h];rfl
theorem agk:mK.enc=[.i .i64 0,.s [],.s [],.i .i64 0,.i .i64 0,.s [],.sl [],.sl [],.sl []]:=by
 rw[au.aC];rfl
theorem IL(x:ah){m:Nat}(h:x.sz<=m):(fD x.aj).length<=m:=by
 have:=(tu x.aj).1;have:=eZ x;omega
theorem aaL(x:ah)(hsz:x.sz<=1048576):aD prog 64 [x.v] (.eu [(true,(um x).cv),(false,[.d (.b (wW x))])]):=aD.of_le fun S=>by
 have h1:=eZ x;have hds:=Qx false x;have hos:=al3 (x:=uh false x) gA;have hgs:=fun i=>wV x i (m:=4194304) gA;obtain⟨l,hl⟩:∃l,l=x.aj.drop 4:=⟨_,rfl⟩
 have hll:l.length<=4194304:=by rw[hl,bk];omega
 have hlm:∀y∈l,y.sz<=4194304:=fun y hy=>by have:=gY (cJ (hl▸hy));omega
 obtain⟨F,hF⟩:∃F,F=uh false x:=⟨_,rfl⟩
 have f1:F.fName=(x.aj.getD 1 cZ).aI:=by rw[hF];rfl
 have f2:F.bU=fD (x.aj.getD 2 cZ).aj:=by rw[hF];rfl
 have f3:F.pR=dec (vE∈fD (x.aj.getD 3 cZ).aj):=by rw[hF,<-kK];rfl
 have f4:F.bP=dec (jm∈fD (x.aj.getD 3 cZ).aj):=by rw[hF,<-kK];rfl
 obtain⟨T,hT⟩:∃T:Nat->List (List D),T=fun i=>((l.map (kr false)).take i).map bg.enc:=⟨_,rfl⟩
 have hT0:T 0=[]:=by rw[hT];rfl
 have fZ:∀i,(T i).length<=i:=fun i=>by rw[hT];simp only[ab];exact bi _ _
 have hTs:∀i (hi:i<l.length),T i++[(kr false l[i]).enc]=T (i+1):=fun i hi=>by
  have:=FN (e:=bg.enc) (l:=l.map (kr false)) (i:=i) hJ;rw[bp] at this;rw[hT];exact this
 have hTe:T l.length=F.aA.map bg.enc:=by
  rw[hT];simp only
  rw[aE gL,hF,hl];rfl
 clear hT
 have gH:wW x=false->Less (.eu [(true,J9),(false,[.d (.b false)])]) (.eu [(true,(um x).cv),(false,[.d (.b (wW x))])]):=fun e=>by
  rw[e];exact atM _ (adp e) false
 have c2:=uf _ (hgs 2);have c3:=tL (fD (x.aj.getD 3 cZ).aj) vE (by have:=IL _ (hgs 3);omega);have c4:=tL (fD (x.aj.getD 3 cZ).aj) jm (by have:=IL _ (hgs 3);omega);rw[<-f2] at c2;rw[<-f3] at c3;rw[<-f4] at c4;refine zcx [.cell 2 65,.tmp 3] func64 ntmps64 ?_;refine W1 ?_;refine C1 (fU x 3 gA gA) ?_;refine C1 (uf _ (hgs 3)) ?_;refine C1 (fU x 1 gA gA) ?_;refine C1 (fU x 2 gA gA) ?_;refine bn c2 ?_;refine W1 ?_;refine bn c3 ?_;refine W1 ?_;refine bn c4 ?_;refine W1 ?_;refine W3 ?_;refine C1 (zQ x 4 gA) ?_;rw[<-hl,<-f1];refine kJ 2 4 16 _ rfl rfl ?_
 refine aZ (ι:=Nat) zmx rfl [1,2,5,6,7] (fun i=>[.c (.ptr (0,0) 0),.c (.ptr (0,1) 0),.c (.ptr (0,2) 0),.c (.d (.sl (l.map ah.enc))),.c (.d (.i .i64 i))])
  (fun i=>[.box [.d (.s x.aI),.d (.sl (x.aj.map ah.enc))],.box J9,.box [.d (.s F.fName),.d (.sl (F.bU.map encS)),.d (.b F.pR),.d (.b F.bP),.bJ (0,3) (T i)],.tok 16 (T i)]::S)
  (fun i=>i<=l.length) (fun i=>l.length-i) 0 rfl (by rw[hT0];rfl) (an _) ?_
 intro i hi;have hl':=fZ i;refine W1 ?_;refine S0 (fun hb h=>?_) fun hb h=>?_
 ·have hi':i<l.length:=gA
  have hz:=hlm _ (ac hi');have hs:=hTs i hi';have hg:=fun k=>wV l[i] k hz;have hg1:=hg 1;have axy:=eZ (l[i].aj.getD 1 cZ);have hz1:=eZ l[i];refine W3 ?_;refine C1 (fU l[i] 0 hz gA) ?_;refine W3 ?_;refine C1 (fU l[i] 1 hz gA) ?_;refine C1 (LA (l[i].aj.getD 1 cZ).aj gA (fun t ht=>by have:=gY ht;omega)) ?_;refine W3 ?_;refine C1 (fU l[i] 2 hz gA) ?_;refine C1 (qX (l[i].aj.getD 2 cZ) (hg 2)) ?_;refine W3 ?_;refine S0 (fun hb h=>?_) fun hb h=>?_
  ·rw[aaJ gA] at hs;simp only[bg.aC,au.aC,ak.aC,ba,bc] at hs;refine W3 ?_;refine C1 (fU l[i] 3 hz gA) ?_;refine C1 (uf _ (hg 3)) ?_;refine W3 ?_;refine C1 (fU l[i] 4 hz gA) ?_;refine C1 (Jl (l[i].aj.getD 4 cZ) (hg 4)) ?_;refine W3 ?_;rw[hs];exact bR 4 gE (i+1) gA rfl rfl rfl rfl gA
  ·rw[aaK gA] at hs;simp only[bg.aC,agk,ak.aC,ba,bc,aw] at hs;refine W3 ?_;rw[hs];exact bR 4 gE (i+1) gA rfl rfl rfl rfl gA
 ·have hi':i=l.length:=gA
  subst hi';rw[hTe];clear hTs;refine C1 (pz x gA) ?_;refine S0 (fun hb h=>?_) fun hb h=>?_
  ·exact gH (aO fun e=>by rw[e.1] at h;cases h)
  have hv:=h;refine S0 (fun hb h=>?_) fun hb h=>?_
  ·exact gH (aO fun e=>gA)
  have hne:x.aj≠[]:=fun e=>by rw[e] at h;exact h rfl
  have hok:=ajr hne;rw[hv,cd] at hok;rw[<-hF] at hok hos hds;refine W3 ?_;refine C1 (Na F gA) ?_;refine C1 (vF (wQ F) x gA) ?_;refine S0 (fun hb h=>?_) fun hb h=>?_
  ·exact gH (by rw[hok];exact aO h)
  ·have hy:wW x=true:=by rw[hok];exact bK h
   rw[aaI hy,hy,<-ajs hy,<-hF];exact gV _
theorem Qy(x:ah)(n:Nat)(hfo:iG x=true)(hlen:4<=x.aj.length)(hsz:x.sz<=1048576):aD prog 128 [x.v] (.agg ((uh true x).cl n)):=aD.of_le fun S=>by
 have h1:=eZ x;obtain⟨F,hF⟩:∃F,F=uh true x:=⟨_,rfl⟩;have hr:=gK (l:=x.aj);have hzs:=fun i hi=>zw x (i:=i) hi;have hz2:=hzs 2 gA;have hz3:=hzs 3 gA
 have f1:F.fName=x.aj[1].aI:=by rw[hF];exact j4 gA
 have f2:F.bU=fD x.aj[2].aj:=by rw[hF,<-jR (l:=x.aj) (i:=2) gA];rfl
 have f3:F.pR=dec (vE∈fD x.aj[3].aj):=by rw[hF,<-kK,<-jR (l:=x.aj) (i:=3) gA];rfl
 have f4:F.bP=dec (jm∈fD x.aj[3].aj):=by rw[hF,<-kK,<-jR (l:=x.aj) (i:=3) gA];rfl
 obtain⟨l,hl⟩:∃l,l=x.aj.drop 4:=⟨_,rfl⟩
 have hll:l.length<=4194304:=by rw[hl,bk];omega
 have hlm:∀y∈l,y.sz<=1048576/\iG y=true:=fun y hy=>by
  have h2:=cJ (hl▸hy);have:=gY h2;exact⟨gA,y5 (IJ hfo (fun e=>by rw[e] at h2;cases h2)) h2⟩
 obtain⟨L,hL⟩:∃L:Nat->Nat,L=fun i=>n+1+1+mH (((l.map (kr true)).take i).map bg.enc):=⟨_,rfl⟩;obtain⟨T,hT⟩:∃T:Nat->List (List D),T=fun i=>eO (((l.map (kr true)).take i).map bg.enc) (n+1+1):=⟨_,rfl⟩
 have hT0:T 0=[]:=by rw[hT];rfl
 have fZ:∀i,(T i).length<=i:=fun i=>by rw[hT];simp only[kT,ab];exact bi _ _
 have hTr:∀i,∀r∈T i,r.length=16:=fun i=>by
  rw[hT]
  exact zm fun r hr=>by
   obtain⟨z,_,rfl⟩:=cr.1 hr;exact z.dK
 have hTs:∀i (hi:i<l.length),T i++[fE (kr true l[i]).enc (L i)]=T (i+1):=fun i hi=>by
  have:=DC (e:=bg.enc) (l:=l.map (kr true)) (i:=i) hJ (n+1+1);rw[bp] at this;rw[hT,hL];exact this
 have hTe:T l.length=am3 F.aA (n+1+1):=by
  rw[hT];simp only
  rw[aE gL,hF,hl];rfl
 clear hT hL;have c2:=rU x.aj[2] gA n;have c3:=tO (fD x.aj[3].aj) vE (by have:=IL _ hz3;omega);have c4:=tO (fD x.aj[3].aj) jm (by have:=IL _ hz3;omega);rw[<-f2] at c2;rw[<-f3] at c3;rw[<-f4] at c4;rw[<-hF];refine lF (n) (rs:=[.cell 2 65]) zmx func128 ntmps128 rfl rfl rfl rfl rfl ?_;refine W1 ?_;refine W3 ?_;refine C1 (rU x.aj[3] gA 0) ?_;refine W3 ?_;refine bn c2 ?_;refine W1 ?_;refine lQ c3 (.cons (Ov _ _) (.cons (gV _) .nil)) ?_;refine W1 ?_;refine lQ c4 (.cons (Ov _ _) (.cons (gV _) .nil)) ?_;refine W1 ?_;refine⟨⟨gA,gA,hr⟩,?_⟩;rw[pJ _ _ _ (ax _),<-hl,<-f1];refine W1 ?_;refine oG (n+1) 3 4 16 _ rfl rfl ?_
 refine aZ (ι:=Nat×List (List D)) zmx rfl [2,4,30,31,32] (fun y=>[.c (.ptr (0,2) 0),.c (.ptr (0,3) 0),.c (.d (.sl (l.map ah.enc))),.c (.d (.i .i64 l.length)),.c (.d (.i .i64 y.1))])
  (fun y=>[.seed n,.box [.d (.s x.aI),.d (.sl (x.aj.map ah.enc))],.box J9,.box [.d (.s F.fName),.d (.ol n (F.bU.map encS)),.d (.b F.pR),.d (.b F.bP),.bJ (0,4) y.2],.eP (n+1) 16 y.2]::S)
  (fun y=>y.1<=l.length/\jd y.2 (T y.1)) (fun y=>l.length-y.1) (0,[]) rfl rfl ⟨an _,by rw[hT0];exact .nil⟩ ?_
 rintro⟨i,U⟩ ⟨p1,p2⟩;simp only at p1 p2;have hU1:=p2.length;have hU2:=fZ i;have hU3:=p2.rows (hTr i);refine W1 ?_;refine S0 (fun hb h=>?_) fun hb h=>?_
 ·have hi':i<l.length:=gA
  obtain⟨hz,hfy⟩:=hlm _ (ac hi');have hs:=hTs i hi';have hz1:=eZ l[i];refine W3 ?_;refine S0 (fun hb h=>?_) fun hb h=>?_
  ·have hl3:3<=l[i].aj.length:=gA
   have hy1:=zw l[i] (i:=1) gA;have axz:=eZ l[i].aj[1];have hy2:=zw l[i] (i:=2) gA;refine W3 ?_;refine C1 (J7 l[i].aj[1].aj (L i) (L i+1) gA (fun t ht=>by have:=gY ht;omega)) ?_;refine W3 ?_;refine C1 (rV l[i].aj[2] (q2S (kr true l[i]) (L i)) gA) ?_;refine W3 ?_;refine S0 (fun hb h=>?_) fun hb h=>?_
   ·have hl5:l[i].aj.length=5:=gA
    have hy3:=zw l[i] (i:=3) gA;have hy4:=zw l[i] (i:=4) gA;have hd:=acg hl5;refine W3 ?_;refine C1 (rU l[i].aj[3] gA (q3S (kr true l[i]) (L i))) ?_;refine W3 ?_;refine C1 (Hr l[i].aj[4] (WC (kr true l[i]) (L i)) (UO hfy gA) gA) ?_;refine W3 ?_;rw[NG] at hs;obtain⟨g,hg⟩:∃g,g=kr true l[i]:=⟨_,rfl⟩;rw[<-hg] at hs hd ⊢
    have e1:g.fName=l[i].aj[0].aI:=by rw[hd]
    have e2:g.bG=l[i].aj[1].aj.map (dZ true):=by rw[hd]
    have e3:g.dh=dZ true l[i].aj[2]:=by rw[hd]
    have e4:g.ji=true:=by rw[hd]
    have e5:g.aG=fD l[i].aj[3].aj:=by rw[hd]
    have e6:g.fBody=fA true l[i].aj[4]:=by rw[hd]
    rw[e1,e2,e3,e4,e5,e6] at hs;refine bR 5 gE (i+1,_) gC rfl rfl rfl rfl ⟨gC,?_⟩
    simp only
    rw[<-hs];exact p2.snoc (.refl _)
   ·have hd:=ach hl3 gA;refine W3 ?_;rw[NG] at hs;obtain⟨g,hg⟩:∃g,g=kr true l[i]:=⟨_,rfl⟩;rw[<-hg] at hs hd ⊢
    have e1:g.fName=l[i].aj[0].aI:=by rw[hd]
    have e2:g.bG=l[i].aj[1].aj.map (dZ true):=by rw[hd]
    have e3:g.dh=dZ true l[i].aj[2]:=by rw[hd]
    have e4:g.ji=false:=by rw[hd]
    have e5:g.aG=[]:=by rw[hd]
    have e6:g.fBody=mK:=by rw[hd]
    rw[e1,e2,e3,e4,e5,e6] at hs;refine bR 5 gE (i+1,_) gC rfl rfl rfl rfl ⟨gC,?_⟩
    simp only
    rw[<-hs];exact p2.snoc (.cons (.refl _) (.cons (.refl _) (.cons (.refl _) (.cons (.refl _) (.cons (.refl _) (.cons (.refl _) (.cons (oV _) (.cons (.refl _) (.cons (.refl _) (.cons (.refl _) (.cons (.refl _) (.cons (.refl _) (.cons (.refl _) (.cons (oV _) (.cons (oV _) (.cons (oV _) .nil))))))))))))))))
  ·have hd:=aci (y:=l[i]) gA;refine S0 (fun hb h=>?_) fun hb h=>?_
   ·omega
   ·refine W3 ?_;rw[hd,NG] at hs;refine bR 5 gE (i+1,_) gC rfl rfl rfl rfl ⟨gC,?_⟩
    simp only
    rw[<-hs];exact p2.snoc (.cons (.refl _) (.cons (oV _) (.cons (.refl _) (.cons (.refl _) (.cons (oV _) (.cons (.refl _) (.cons (oV _) (.cons (.refl _) (.cons (.refl _) (.cons (.refl _) (.cons (.refl _) (.cons (.refl _) (.cons (.refl _) (.cons (oV _) (.cons (oV _) (.cons (oV _) .nil))))))))))))))))
 ·have hi':i=l.length:=gA
  subst hi';rw[hTe] at p2;exact(fP.cons (.refl _) (.cons (.refl _) (.cons (.refl _) (.cons (.refl _) (.cons (KV p2) .nil))))).less
theorem Xk(x:ah)(n:Nat)(hsz:x.sz<=1048576):aD prog 57 [x.v] (.eu [(true,(um x).cl n),(false,[.d (.b (wW x))])]):=aD.of_le fun S=>by
 have hds:=Qx true x
 have gH:wW x=false->Less (.eu [(true,J9),(false,[.d (.b false)])]) (.eu [(true,(um x).cl n),(false,[.d (.b (wW x))])]):=fun e=>by
  rw[e];exact apS _ (adp e) n false
 refine zcx [.cell 2 65,.tmp 3] func57 ntmps57 ?_;refine W1 ?_;refine C1 (wU x kE 4 gA gA gA) ?_;refine S0 (fun hb h=>?_) fun hb h=>?_
 ·exact gH (aO fun e=>h ⟨e.1,e.2.1.1,e.2.1.2⟩)
 have hf:=h;have vV:=qN hf.1
 have hfo:iG x=true:=by have:=hf.1;unfold dQ at this;rw[ai] at this;exact this.1
 refine C1 (Qy x n hfo hf.2.1 gA) ?_;refine lQ (EZ (uh true x) gA) (.cons (aaH _ n) .nil) ?_;refine W1 ?_;refine S0 (fun hb h=>?_) fun hb h=>?_
 ·exact gH (aO fun e=>by rw[e.2.2.1] at h;cases h)
 have hv:=h;have hz:=JX hv;refine W3 ?_;refine lQ (aD.less (EG (uh true x) 0 hv gA) (AO (kF (uh true x)) 0)) (.cons (aaH _ n) .nil) ?_;refine W1 ?_;refine C1 (r9 (kF (uh true x)) x gA) ?_;refine S0 (fun hb h=>?_) fun hb h=>?_
 ·exact gH (aO fun e=>h e.2.2.2)
 ·have hy:wW x=true:=bK ⟨hf.1,hf.2,hv,h⟩;rw[aaI hy,hy];exact gV _
end Go.Ab