/-
  SEVERAL TEXTS IN ONE (merged by program): contracts and models, each with its own heading.
-/
import Derived.Test.YtlaaknnkeidlbaaGreatDoorPartDmbQ
import Derived.Test.YtlaaknnkeidlbaaGreatDoorPartDmbX
open Go.Proofs Go.Proofs.Tryz
set_option linter.unusedSimpArgs false
set_option linter.unusedVariables false
set_option maxRecDepth 4000
namespace Go.Ab
def RX:bA:=⟨[],[],jA,false,[],nA⟩
def Cq(b:Bool)(l:List ah):Bool:=match b with
 |true=>decide (l.length=5)
 |false=>decide (3<l.length)
def mK(b:Bool)(y:ah):bA:=if b=true/\y.aj.length<3 then RX else
 ⟨dQ y.aj 0,(gX y.aj 1).aj.map (fK b),fK b (gX y.aj 2),Cq b y.aj,if Cq b y.aj=true then nX y.aj 3 else [],if Cq b y.aj=true then fP b (gX y.aj 4) else nA⟩
def xU(b:Bool)(x:ah):bJ:=
 ⟨dQ x.aj 1,nX x.aj 2,decide (wH∈nX x.aj 3),decide (jf∈nX x.aj 3),(x.aj.drop 4).map (mK b)⟩
theorem agd{g:bA}(h:iF g=true):(g.iP=true->∀v∈g.aH,v≠[])/\(g.iP=false->g.aH=[]/\g.fBody=nA):=by
 unfold iF at h;simp only[Bool.and_eq_true] at h;obtain⟨_,_,_,_,h3⟩:=h;refine⟨fun hd=> ?_,fun hd=> ?_⟩
 ·rw[if_pos hd,Bool.and_eq_true] at h3;have:=h3.2;unfold nu at this;rw[Bool.and_eq_true] at this;exact zC this.1
 ·rw[if_neg (by rw[hd];decide),Bool.and_eq_true] at h3;exact⟨List.eq_nil_of_length_eq_zero (gJ h3.1),gJ h3.2⟩
theorem agf(b:Bool){g:bA}(h:iF g=true):mK b (nN g)=g:=by
 obtain⟨h1,h2,h3⟩:=rG h;obtain⟨h4,h5⟩:=agd h;unfold mK
 cases hd:g.iP with
 |true=>
  rw[AY hd,if_neg (by simp)]
  have e:Cq b [bN g.fName,bH (g.bC.map dn),dn g.cB,bH (aO g.aH),fu g.fBody]=true:=by cases b<;>rfl
  rw[e,if_pos rfl,if_pos rfl];show bA.mk g.fName ((g.bC.map dn).map (fK b)) (fK b (dn g.cB)) true (gB (aO g.aH)) (fP b (fu g.fBody))=g;rw[Gi b h1,xS b _ h2,nS (h4 hd),Ht b _ (h3 hd),<-hd]
 |false=>
  rw[AZ hd,if_neg (by simp)]
  have e:Cq b [bN g.fName,bH (g.bC.map dn),dn g.cB]=false:=by cases b<;>rfl
  rw[e,if_neg (by decide),if_neg (by decide)];show bA.mk g.fName ((g.bC.map dn).map (fK b)) (fK b (dn g.cB)) false [] nA=g;obtain⟨e1,e2⟩:=h5 hd;rw[Gi b h1,xS b _ h2,<-e2]
  conv=>lhs;rw[<-e1,<-hd]
theorem RY{t:bJ}(h:dO t=true):∀v∈t.bU,v≠[]:=by
 unfold dO at h;simp only[Bool.and_eq_true] at h;exact zC h.2.2.1
theorem agh(t:bJ):∀v∈lD t,v≠[]:=fun v hv=>by
 unfold lD at hv;rw[List.mem_append] at hv;rcases hv with h|h
 ·split at h
  ·rw[List.mem_singleton.1 h];decide
  ·cases h
 ·split at h
  ·rw[List.mem_singleton.1 h];decide
  ·cases h
theorem QG(t:bJ):decide (wH∈lD t)=t.pY/\decide (jf∈lD t)=t.bR:=by
 unfold lD;cases t.pY<;>cases t.bR<;>exact⟨by decide,by decide⟩
theorem NW(b:Bool){t:bJ}(h:dO t=true):xU b (jW t)=t:=by
 have h1:=(jD h).1;show bJ.mk t.fName (gB (aO t.bU)) (decide (wH∈gB (aO (lD t)))) (decide (jf∈gB (aO (lD t)))) ((t.aA.map nN).map (mK b))=t;rw[nS (RY h),nS (agh t),(QG t).1,(QG t).2,EZ fun c hc=>agf b (h1 c hc)]
noncomputable def CV(x:ah):Bool:=dec (dV x=true/\(4<=x.aj.length/\dQ x.aj 0=lC)/\dO (xU true x)=true/\jW (xU true x)=x)
def QH:bJ:=⟨[],[],false,false,[]⟩
noncomputable def xH(x:ah):bJ:=if CV x=true then xU true x else QH
theorem ajL(b:Bool)(l:List ah):aP ((l.map (fK b)).map ak.enc)<=dA l:=by
 have:=Jd b l;rw[zA] at this;rw[AP];exact this
theorem agi(b:Bool)(y:ah):(mK b y).sz<=y.sz:=by
 have h1:=Co y.aj;have h2:=qE y;have h3:=qE (gX y.aj 0);have h4:=ajL b (gX y.aj 1).aj;have h4':=qE (gX y.aj 1);have h5:=zB b (gX y.aj 2);have h6:=tu (gX y.aj 3).aj;have h6':=qE (gX y.aj 3);have h7:=DX b (gX y.aj 4);unfold mK;split
 ·simp only[RX,bA.sz,bA.aJ,bQ,bP,D.sz,ak.dP,ay.dP,Cn,zD,List.map_nil,aP,List.length_nil];omega
 ·cases Cq b y.aj with
  |true=>
   simp only[if_true,bA.sz,bA.aJ,bQ,bP,D.sz,ak.dP,ay.dP,List.length_map,nX,dH,FT];omega
  |false=>
   simp only[Bool.false_eq_true,if_false,bA.sz,bA.aJ,bQ,bP,D.sz,ak.dP,ay.dP,List.length_map,zD,List.map_nil,aP,List.length_nil,FT];omega
theorem QI(b:Bool):∀l:List ah,aP ((l.map (mK b)).map bA.enc)<=dA l
 |[]=>by simp[aP]
 |y::l=>by
  have h1:=agi b y;have h2:=QI b l;rw[List.map_cons,List.map_cons,aP,dA];simp only[bA.sz] at h1;omega
theorem XU(b:Bool)(x:ah):(xU b x).sz<=x.sz:=by
 have h1:=EY x.aj;have h2:=qE x;have h3:=qE (gX x.aj 1);have h4:=tu (gX x.aj 2).aj;have h4':=qE (gX x.aj 2);have h5:=QI b (x.aj.drop 4);simp only[bJ.sz,bJ.aJ,bQ,bP,D.sz,xU,List.length_map,List.length_drop,nX,dH,FT];omega
def q2S(x:bA)(q:Nat):Nat:=q+(fU x.bC+1)
def q3S(x:bA)(q:Nat):Nat:=q2S x q+(fU x.cB.fArgs+1)
def TS(x:bA)(q:Nat):Nat:=q3S x q+1
theorem K8(x:bA)(q:Nat):fV x.enc q=[.s x.fName,.ol q (lt x.bC (q+1)),.i .i64 x.cB.aM,.s x.cB.fName,.ol (q2S x q) (lt x.cB.fArgs (q2S x q+1)),.b x.iP,.ol (q3S x q) (x.aH.map encS),
 .i .i64 x.fBody.aM,.s x.fBody.bO,.s x.fBody.fName,.i .i64 x.fBody.fN,.i .i64 x.fBody.fType.aM,.s x.fBody.fType.fName,.ol (TS x q) (lt x.fBody.fType.fArgs (TS x q+1)),
 .ol (TS x q+(fU x.fBody.fType.fArgs+1)) (lE x.fBody.fArgs (TS x q+(fU x.fBody.fType.fArgs+1)+1)),.ol (TS x q+(fU x.fBody.fType.fArgs+1)+(kY x.fBody.fArgs+1)) (lM x.fBody.aT (TS x q+(fU x.fBody.fType.fArgs+1)+(kY x.fBody.fArgs+1)+1))]:=by
 simp only[bA.aJ,ay.aJ,ak.aJ,List.cons_append,List.nil_append,fV,vB,vw,Nat.add_zero,lt,lE,lM,fU,kY,q2S,q3S,TS,vC,xD,Nat.zero_add]
def ajM(l:List bA)(n:Nat):List (List D):=eZ (l.map bA.enc) n
abbrev bJ.cl(x:bJ)(n:Nat):List C:=[.d (.s x.fName),.d (.ol n (x.bU.map encS)),.d (.b x.pY),.d (.b x.bR),.d (.ol (n+1) (ajM x.aA (n+1+1)))]
abbrev bJ.cv(x:bJ):List C:=[.d (.s x.fName),.d (.sl (x.bU.map encS)),.d (.b x.pY),.d (.b x.bR),.d (.sl (x.aA.map bA.enc))]
theorem XV(x:bJ)(n:Nat):(fV x.enc n).map C.d=x.cl n:=by
 simp only[bJ.aJ,fV,vB,vw,Nat.add_zero,ajM,vC,xD,Nat.zero_add,List.map_cons,List.map_nil];rfl
theorem XW(x:bJ)(n:Nat):Less (.agg (x.cl n)) x.v:=by
 have:=IJ (r:=x.enc) (n:=n);rw[XV,bJ.Na] at this;exact this
theorem amv{x:ah}(h:CV x=false):xH x=QH:=if_neg (by rw[h];decide)
theorem ajN{x:ah}(h:CV x=true):xH x=xU true x:=if_pos h
abbrev XY:List C:=[.d (.s []),.bF [],.d (.b false),.d (.b false),.bF []]
theorem amw(e:bJ)(h:e=QH)(n:Nat)(ok:Bool):Less (.fF [(true,XY),(false,[.d (.b ok)])]) (.fF [(true,e.cl n),(false,[.d (.b ok)])]):=by
 rw[h];exact(kU.cons (.cons (.refl _) (.cons (dX _) (.cons (.refl _) (.cons (.refl _) (.cons (dX _) .nil))))) (.refl _)).less
theorem Zo{y:ah}(h:y.aj.length=5):mK true y=⟨y.aj[0].aQ,y.aj[1].aj.map (fK true),fK true y.aj[2],true,gB y.aj[3].aj,fP true y.aj[4]⟩:=by
 unfold mK;rw[if_neg (by omega),show Cq true y.aj=true from decide_eq_true h,if_pos rfl,if_pos rfl,lK (by omega),jO (by omega:1<y.aj.length),jO (by omega:2<y.aj.length),jO (by omega:4<y.aj.length)];unfold nX;rw[jO (by omega:3<y.aj.length)]
theorem Zp{y:ah}(h:3<=y.aj.length)(h5:y.aj.length≠5):mK true y=⟨y.aj[0].aQ,y.aj[1].aj.map (fK true),fK true y.aj[2],false,[],nA⟩:=by
 unfold mK;rw[if_neg (by omega),show Cq true y.aj=false from decide_eq_false h5,if_neg (by decide),if_neg (by decide),lK (by omega),jO (by omega:1<y.aj.length),jO (by omega:2<y.aj.length)]
theorem Zq{y:ah}(h:y.aj.length<3):mK true y=RX:=if_pos ⟨rfl,h⟩
theorem TT(x:ah){m:Nat}(h:x.sz<=m):(gB x.aj).length<=m:=by
 have:=(tu x.aj).1;have:=iB x;omega
theorem NY(x:ah)(n:Nat)(hfo:iE x=true)(hlen:4<=x.aj.length)(hsz:x.sz<=1048576):aF prog 228 [x.v] (.agg ((xU true x).cl n)):=aF.of_le fun S=>by
 have h1:=iB x;obtain⟨F,hF⟩:∃F,F=xU true x:=⟨_,rfl⟩;have hr:=gV (l:=x.aj);have hzs:=fun i hi=>yI x (i:=i) hi;have hz2:=hzs 2 (by omega);have hz3:=hzs 3 (by omega)
 have f1:F.fName=x.aj[1].aQ:=by rw[hF];exact lK (by omega)
 have f2:F.bU=gB x.aj[2].aj:=by rw[hF,<-jO (l:=x.aj) (i:=2) (by omega)];rfl
 have f3:F.pY=dec (wH∈gB x.aj[3].aj):=by rw[hF,<-lH,<-jO (l:=x.aj) (i:=3) (by omega)];rfl
 have f4:F.bR=dec (jf∈gB x.aj[3].aj):=by rw[hF,<-lH,<-jO (l:=x.aj) (i:=3) (by omega)];rfl
 obtain⟨l,hl⟩:∃l,l=x.aj.drop 4:=⟨_,rfl⟩
 have hll:l.length<=4194304:=by rw[hl,List.length_drop];omega
 have hlm:∀y∈l,y.sz<=1048576/\iE y=true:=fun y hy=>by
  have h2:=List.mem_of_mem_drop (hl▸hy);have:=kT h2;exact⟨by omega,xE (FR hfo (fun e=>by rw[e] at h2;cases h2)) h2⟩
 obtain⟨L,hL⟩:∃L:Nat->Nat,L=fun i=>n+1+1+lI (((l.map (mK true)).take i).map bA.enc):=⟨_,rfl⟩;obtain⟨T,hT⟩:∃T:Nat->List (List D),T=fun i=>eZ (((l.map (mK true)).take i).map bA.enc) (n+1+1):=⟨_,rfl⟩
 have hT0:T 0=[]:=by rw[hT];rfl
 have gM:∀i,(T i).length<=i:=fun i=>by rw[hT];simp only[lg,List.length_map];exact List.length_take_le _ _
 have hTr:∀i,∀r∈T i,r.length=16:=fun i=>by
  rw[hT]
  exact xO fun r hr=>by
   obtain⟨z,_,rfl⟩:=List.mem_map.1 hr;exact z.eB
 have hTs:∀i (hi:i<l.length),T i++[fV (mK true l[i]).enc (L i)]=T (i+1):=fun i hi=>by
  have:=BI (e:=bA.enc) (l:=l.map (mK true)) (i:=i) (by rw[List.length_map];exact hi) (n+1+1);rw[List.getElem_map] at this;rw[hT,hL];exact this
 have hTe:T l.length=ajM F.aA (n+1+1):=by
  rw[hT];simp only
  rw[List.take_of_length_le (by simp),hF,hl];rfl
 clear hT hL;have c2:=qC x.aj[2] (by omega) n;have c3:=rR (gB x.aj[3].aj) wH (by have:=TT _ hz3;omega);have c4:=rR (gB x.aj[3].aj) jf (by have:=TT _ hz3;omega);rw[<-f2] at c2;rw[<-f3] at c3;rw[<-f4] at c4;rw[<-hF];refine lq (n) (rs:=[.cell 2 84]) zmx func228 ntmps228 rfl rfl rfl rfl rfl ?_;refine W1 ?_;refine W3 ?_;refine C1 (qC x.aj[3] (by omega) 0) ?_;refine W3 ?_;refine bD c2 ?_;refine W1 ?_;refine jS c3 (.cons (LX _ _) (.cons (pQ _) .nil)) ?_;refine W1 ?_;refine jS c4 (.cons (LX _ _) (.cons (pQ _) .nil)) ?_;refine W1 ?_;refine⟨⟨by omega,by omega,hr⟩,?_⟩;rw[tC _ _ _ (Nat.le_refl _),<-hl,<-f1];refine W1 ?_;refine oW (n+1) 3 4 16 _ rfl rfl ?_
 refine aZ (ι:=Nat×List (List D)) zmx rfl [2,4,30,31,32] (fun y=>[.c (.ptr (0,2) 0),.c (.ptr (0,3) 0),.c (.d (.sl (l.map ah.enc))),.c (.d (.i .i64 l.length)),.c (.d (.i .i64 y.1))])
  (fun y=>[.seed n,.box [.d (.s x.aQ),.d (.sl (x.aj.map ah.enc))],.box XY,.box [.d (.s F.fName),.d (.ol n (F.bU.map encS)),.d (.b F.pY),.d (.b F.bR),.bI (0,4) y.2],.eG (n+1) 16 y.2]::S)
  (fun y=>y.1<=l.length/\iH y.2 (T y.1)) (fun y=>l.length-y.1) (0,[]) rfl rfl ⟨Nat.zero_le _,by rw[hT0];exact .nil⟩ ?_
 rintro⟨i,U⟩ ⟨p1,p2⟩;simp only at p1 p2;have hU1:=p2.length;have hU2:=gM i;have hU3:=p2.rows (hTr i);refine W1 ?_;refine S0 (fun hb h=>?_) fun hb h=>?_
 ·have hi':i<l.length:=by omega
  obtain⟨hz,ZC⟩:=hlm _ (List.getElem_mem hi');have hs:=hTs i hi';have hz1:=iB l[i];refine W3 ?_;refine S0 (fun hb h=>?_) fun hb h=>?_
  ·have hl3:3<=l[i].aj.length:=by omega
   have hy1:=yI l[i] (i:=1) (by omega);have atI:=iB l[i].aj[1];have hy2:=yI l[i] (i:=2) (by omega);refine W3 ?_;refine C1 (Hu l[i].aj[1].aj (L i) (L i+1) (by omega) (fun t ht=>by have:=kT ht;omega)) ?_;refine W3 ?_;refine C1 (qD l[i].aj[2] (q2S (mK true l[i]) (L i)) (by omega)) ?_;refine W3 ?_;refine S0 (fun hb h=>?_) fun hb h=>?_
   ·have hl5:l[i].aj.length=5:=by omega
    have hy3:=yI l[i] (i:=3) (by omega);have hy4:=yI l[i] (i:=4) (by omega);have hd:=Zo hl5;refine W3 ?_;refine C1 (qC l[i].aj[3] (by omega) (q3S (mK true l[i]) (L i))) ?_;refine W3 ?_;refine C1 (EX l[i].aj[4] (TS (mK true l[i]) (L i)) (RU ZC (by omega)) (by omega)) ?_;refine W3 ?_;rw[K8] at hs;obtain⟨g,hg⟩:∃g,g=mK true l[i]:=⟨_,rfl⟩;rw[<-hg] at hs hd ⊢
    have e1:g.fName=l[i].aj[0].aQ:=by rw[hd]
    have e2:g.bC=l[i].aj[1].aj.map (fK true):=by rw[hd]
    have e3:g.cB=fK true l[i].aj[2]:=by rw[hd]
    have e4:g.iP=true:=by rw[hd]
    have e5:g.aH=gB l[i].aj[3].aj:=by rw[hd]
    have e6:g.fBody=fP true l[i].aj[4]:=by rw[hd]
    rw[e1,e2,e3,e4,e5,e6] at hs;refine bT 5 (by decide) (i+1,_) (by simp only;omega) rfl rfl rfl rfl ⟨by simp only;omega,?_⟩
    simp only
    rw[<-hs];exact p2.snoc (.refl _)
   ·have hd:=Zp hl3 (by omega);refine W3 ?_;rw[K8] at hs;obtain⟨g,hg⟩:∃g,g=mK true l[i]:=⟨_,rfl⟩;rw[<-hg] at hs hd ⊢
    have e1:g.fName=l[i].aj[0].aQ:=by rw[hd]
    have e2:g.bC=l[i].aj[1].aj.map (fK true):=by rw[hd]
    have e3:g.cB=fK true l[i].aj[2]:=by rw[hd]
    have e4:g.iP=false:=by rw[hd]
    have e5:g.aH=[]:=by rw[hd]
    have e6:g.fBody=nA:=by rw[hd]
    rw[e1,e2,e3,e4,e5,e6] at hs;refine bT 5 (by decide) (i+1,_) (by simp only;omega) rfl rfl rfl rfl ⟨by simp only;omega,?_⟩
    simp only
    rw[<-hs];exact p2.snoc (.cons (.refl _) (.cons (.refl _) (.cons (.refl _) (.cons (.refl _) (.cons (.refl _) (.cons (.refl _) (.cons (nW _) (.cons (.refl _) (.cons (.refl _) (.cons (.refl _) (.cons (.refl _) (.cons (.refl _) (.cons (.refl _) (.cons (nW _) (.cons (nW _) (.cons (nW _) .nil))))))))))))))))
  ·have hd:=Zq (y:=l[i]) (by omega);refine S0 (fun hb h=>?_) fun hb h=>?_
   ·omega
   ·refine W3 ?_;rw[hd,K8] at hs;refine bT 5 (by decide) (i+1,_) (by simp only;omega) rfl rfl rfl rfl ⟨by simp only;omega,?_⟩
    simp only
    rw[<-hs];exact p2.snoc (.cons (.refl _) (.cons (nW _) (.cons (.refl _) (.cons (.refl _) (.cons (nW _) (.cons (.refl _) (.cons (nW _) (.cons (.refl _) (.cons (.refl _) (.cons (.refl _) (.cons (.refl _) (.cons (.refl _) (.cons (.refl _) (.cons (nW _) (.cons (nW _) (.cons (nW _) .nil))))))))))))))))
 ·have hi':i=l.length:=by omega
  subst hi';rw[hTe] at p2;exact(gH.cons (.refl _) (.cons (.refl _) (.cons (.refl _) (.cons (.refl _) (.cons (IZ p2) .nil))))).less
theorem Uy(x:ah)(n:Nat)(hsz:x.sz<=1048576):aF prog 164 [x.v] (.fF [(true,(xH x).cl n),(false,[.d (.b (CV x))])]):=aF.of_le fun S=>by
 have hds:=XU true x
 have mU:CV x=false->Less (.fF [(true,XY),(false,[.d (.b false)])]) (.fF [(true,(xH x).cl n),(false,[.d (.b (CV x))])]):=fun e=>by
  rw[e];exact amw _ (amv e) n false
 refine zcx [.cell 2 84,.tmp 3] func164 ntmps164 ?_;refine W1 ?_;refine C1 (vG x lC 4 (by omega) (by omega) (by omega)) ?_;refine S0 (fun hb h=>?_) fun hb h=>?_
 ·exact mU (aR fun e=>h ⟨e.1,e.2.1.1,e.2.1.2⟩)
 have hf:=h;have uH:=uN hf.1
 have hfo:iE x=true:=by have:=hf.1;unfold dV at this;rw[Bool.and_eq_true] at this;exact this.1
 refine C1 (NY x n hfo hf.2.1 (by omega)) ?_;refine jS (Dg (xU true x) (by omega)) (.cons (XW _ n) .nil) ?_;refine W1 ?_;refine S0 (fun hb h=>?_) fun hb h=>?_
 ·exact mU (aR fun e=>by rw[e.2.2.1] at h;cases h)
 have hv:=h;have hz:=G9 hv;refine W3 ?_;refine jS (aF.less (CK (xU true x) 0 hv (by omega)) (zm (jW (xU true x)) 0)) (.cons (XW _ n) .nil) ?_;refine W1 ?_;refine C1 (qM (jW (xU true x)) x (by omega)) ?_;refine S0 (fun hb h=>?_) fun hb h=>?_
 ·exact mU (aR fun e=>h e.2.2.2)
 ·have hy:CV x=true:=bM ⟨hf.1,hf.2,hv,h⟩;rw[ajN hy,hy];exact pQ _
end Go.Ab