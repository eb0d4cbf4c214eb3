/-
  SEVERAL TEXTS IN ONE (merged by program): contracts and models, each with its own heading.
-/
import Derived.Test.YtbaefeecjjhhkaaGreatDoorPartOcbN
import Derived.Test.YtbaefeecjjhhkaaGreatDoorPartOcbO
set_option maxHeartbeats 8000000
open Go.Proofs Go.Proofs.Tryz
set_option linter.unusedSimpArgs false
set_option linter.unusedVariables false
set_option maxRecDepth 4000
namespace Go.Ab
def sO(b:Bool)(y:aj):bX:=if b=true/\y.ah.length≠3 then⟨[],[],l6⟩ else⟨dK y.ah 0,nC y.ah 1,eU b (gX y.ah 2)⟩
def AY(b:Bool)(x:aj):aT:=
 ⟨dK x.ah 1,nC x.ah 2,dP b (gX x.ah 3),(gX x.ah 4).ah.map (nV b),decide (0<(gX x.ah 5).ah.length),decide (0<(gX x.ah 6).ah.length),
   if 0<(gX x.ah 6).ah.length then dP b (gX (gX x.ah 6).ah 0) else jd,(x.ah.drop 7).map (sO b)⟩
theorem af6{vars:List (List UInt8)}{e:ay}(h:nA vars e=true):∀v∈vars,v≠[]:=by
 unfold nA at h;rw[Bool.and_eq_true] at h;exact y8 h.1
theorem ajp(b:Bool){m:bX}(h:nA m.aF m.fBody=true):sO b (oC m)=m:=by
 unfold sO;rw[if_neg (by simp[oC,bY])];show bX.mk m.fName (eY (aP m.aF)) (eU b (fu m.fBody))=m;rw[nT (af6 h),G7 b _ (Fv h)]
theorem inst_more{x:aT}(h:eX x=true):(∀v∈x.aF,v≠[])/\(x.eH=false->x.bI=jd)/\(∀m∈x.aN,nA m.aF m.fBody=true):=by
 unfold eX vC at h;simp only[Bool.and_eq_true] at h;obtain⟨⟨_,_,h0,h1,_,_,_,h2,h3,_⟩,h4,_⟩:=h;refine⟨y8 h0,fun ha=> ?_,fun m hm=> ?_⟩
 ·rw[if_neg (by rw[ha];decide)] at h3;exact rX (gq h3)
 ·have h5:=List.all_eq_true.1 h4 m hm;unfold mW at h5;simp only[Bool.and_eq_true] at h5;exact h5.2.2
theorem DN(b:Bool){x:aT}(h:eX x=true):AY b (oV x)=x:=by
 obtain⟨h1,h2,h3,h4⟩:=nY h;obtain⟨g1,g2,g3⟩:=inst_more h;show aT.mk x.bG (eY (aP x.aF)) (dP b (bZ x.bO)) ((x.dh.map qy).map (nV b)) (decide (0<(aP (kE x)).length)) (decide (0<(kF x).length)) (if 0<(kF x).length then dP b (gX (kF x) 0) else jd) ((x.aN.map oC).map (sO b))=x;rw[nT g1,xC b _ h1,EL fun c hc=>aat b (h2 c hc),EL fun c hc=>ajp b (g3 c hc),jA]
 have e1:decide (0<(kE x).length)=x.gQ:=by unfold kE;cases x.gQ<;>rfl
 rw[e1];unfold kF
 cases ha:x.eH with
 |true=>
  rw[if_pos rfl];show aT.mk _ _ _ _ _ true (dP b (bZ x.bI)) _=x;rw[xC b _ (h3 ha),<-ha]
 |false=>
  rw[if_neg (by decide)];show aT.mk _ _ _ _ _ false jd _=x;rw[<-g2 ha,<-ha]
noncomputable def wZ(x:aj):Bool:=dec (dI x=true/\(7<=x.ah.length/\dK x.ah 0=kH)/\eX (AY true x)=true/\oV (AY true x)=x)
theorem ajq{x:aj}(hx:x.ah≠[]):wZ x=(dI x&&dec (AX (AY false x)=x)):=
 XC hx (fun a h1 h2=>by rw[<-h2];exact⟨DN true h1,DN false h1⟩) fun a h=>by rw[<-h];exact⟨by rw[oV,bY];simp[mJ],rfl⟩
theorem ajr{x:aj}(h:wZ x=true):AY false x=AY true x:=by
 have h1:=gq h
 conv=>lhs;rw[<-h1.2.2.2]
 exact DN false h1.2.2.1
def LW:aT:=⟨[],[],jd,[],false,false,jd,[]⟩
noncomputable def oW(x:aj):aT:=if wZ x=true then AY true x else LW
theorem ajs(b:Bool)(y:aj):(sO b y).sz<=y.sz:=by
 have h1:=EK y.ah;have h2:=qg y;have h3:=qg (gX y.ah 0);have h4:=ru (gX y.ah 1).ah;have h4':=qg (gX y.ah 1);have h5:=DJ b (gX y.ah 2);unfold sO;split
 ·simp only[bX.sz,bX.aQ,dz,bW,D.sz,ay.iD,y9,List.map_nil,bf,List.length_nil];omega
 ·simp only[bX.sz,bX.aQ,dz,bW,D.sz,ay.iD,List.length_map,nC,dB,FD];omega
theorem TF(b:Bool):∀l:List aj,bf ((l.map (sO b)).map bX.enc)<=cZ l
 |[]=>by simp[bf]
 |y::l=>by
  have h1:=ajs b y;have h2:=TF b l;rw[List.map_cons,List.map_cons,bf,cZ];simp only[bX.sz] at h1;omega
theorem Rw(b:Bool)(x:aj):(AY b x).sz<=x.sz:=by
 have h1:=Cj x.ah;have h2:=qg x;have h3:=qg (gX x.ah 1);have h4:=ru (gX x.ah 2).ah;have h4':=qg (gX x.ah 2);have h5:=y7 b (gX x.ah 3);have h6:=NA b (gX x.ah 4).ah;have h6':=qg (gX x.ah 4)
 have h7:(if 0<(gX x.ah 6).ah.length then dP b (gX (gX x.ah 6).ah 0) else jd).sz<=(gX x.ah 6).sz:=by
  have a1:=qg (gX x.ah 6);have a2:=EK (gX x.ah 6).ah;have a3:=y7 b (gX (gX x.ah 6).ah 0);split
  ·omega
  ·rw[Ce];omega
 have h8:=TF b (x.ah.drop 7);generalize hz:(if 0<(gX x.ah 6).ah.length then dP b (gX (gX x.ah 6).ah 0) else jd)=z at h7;simp only[aT.sz,aT.aQ,dz,bW,D.sz,ak.iD,AY,hz,List.length_map,List.length_drop,nC,dB,FD];omega
theorem XJ(x:bX)(n:Nat):fQ x.enc n=[.s x.fName,.ol n (x.aF.map encS),.i .i64 x.fBody.aM,.s x.fBody.bG,.s x.fBody.fName,.i .i64 x.fBody.fN,.i .i64 x.fBody.fType.aM,.s x.fBody.fType.fName,.ol (n+1) (lt x.fBody.fType.fArgs (n+1+1)),
 .ol (n+1+(fZ x.fBody.fType.fArgs+1)) (lE x.fBody.fArgs (n+1+(fZ x.fBody.fType.fArgs+1)+1)),.ol (n+1+(fZ x.fBody.fType.fArgs+1)+(lK x.fBody.fArgs+1)) (lM x.fBody.aS (n+1+(fZ x.fBody.fType.fArgs+1)+(lK x.fBody.fArgs+1)+1))]:=by
 simp only[bX.aQ,ay.aQ,ak.aQ,List.cons_append,List.nil_append,fQ,tZ,uP,Nat.add_zero,lt,lE,lM,fZ,lK,uQ,wX,Nat.zero_add]
def lMe(l:List bX)(n:Nat):List (List D):=dX (l.map bX.enc) n
def pI(x:aT)(n:Nat):Nat:=n+1+(fZ x.bO.fArgs+1)
def qI(x:aT)(n:Nat):Nat:=pI x n+(UR x.dh+1)
def rI(x:aT)(n:Nat):Nat:=qI x n+(fZ x.bI.fArgs+1)
abbrev aT.cl(x:aT)(n p q r:Nat):List C:=[.d (.s x.bG),.d (.ol n (x.aF.map encS)),.d (.i .i64 x.bO.aM),.d (.s x.bO.fName),.d (.ol (n+1) (lt x.bO.fArgs (n+1+1))),.d (.ol p (lB x.dh (p+1))),.d (.b x.gQ),.d (.b x.eH),
 .d (.i .i64 x.bI.aM),.d (.s x.bI.fName),.d (.ol q (lt x.bI.fArgs (q+1))),.d (.ol r (lMe x.aN (r+1)))]
abbrev aT.cv(x:aT):List C:=[.d (.s x.bG),.d (.sl (x.aF.map encS)),.d (.i .i64 x.bO.aM),.d (.s x.bO.fName),.d (.sl (x.bO.fArgs.map ak.enc)),.d (.sl (x.dh.map bS.enc)),.d (.b x.gQ),.d (.b x.eH),
 .d (.i .i64 x.bI.aM),.d (.s x.bI.fName),.d (.sl (x.bI.fArgs.map ak.enc)),.d (.sl (x.aN.map bX.enc))]
theorem al2(x:aT)(n:Nat):(fQ x.enc n).map C.d=x.cl n (pI x n) (qI x n) (rI x n):=by
 simp only[aT.aQ,ak.aQ,List.cons_append,List.nil_append,fQ,tZ,uP,Nat.add_zero,lt,lB,lMe,fZ,UR,pI,qI,rI,uQ,wX,Nat.zero_add,List.map_cons,List.map_nil];rfl
theorem XK{x:aj}(h:wZ x=false):oW x=LW:=if_neg (by rw[h];decide)
theorem aax{x:aj}(h:wZ x=true):oW x=AY true x:=if_pos h
abbrev w9:List C:=[.d (.s []),.bn [],.d (.i .i64 0),.d (.s []),.bn [],.bn [],.d (.b false),.d (.b false),.d (.i .i64 0),.d (.s []),.bn [],.bn []]
theorem arO(e:aT)(h:e=LW)(ok:Bool):Less (.dN [(true,w9),(false,[.d (.b ok)])]) (.dN [(true,e.cv),(false,[.d (.b ok)])]):=by
 rw[h];exact(ig.cons (.cons (.refl _) (.cons (eT _) (.cons (.refl _) (.cons (.refl _) (.cons (eT _) (.cons (eT _) (.cons (.refl _) (.cons (.refl _) (.cons (.refl _) (.cons (.refl _) (.cons (eT _) (.cons (eT _) .nil)))))))))))) (.refl _)).less
theorem af9(e:aT)(h:e=LW)(n p q r:Nat)(ok:Bool):Less (.dN [(true,w9),(false,[.d (.b ok)])]) (.dN [(true,e.cl n p q r),(false,[.d (.b ok)])]):=by
 rw[h];exact(ig.cons (.cons (.refl _) (.cons (dR _) (.cons (.refl _) (.cons (.refl _) (.cons (dR _) (.cons (dR _) (.cons (.refl _) (.cons (.refl _) (.cons (.refl _) (.cons (.refl _) (.cons (dR _) (.cons (dR _) .nil)))))))))))) (.refl _)).less
theorem XL{b:Bool}{y:aj}(h:b=false\/y.ah.length=3):sO b y=⟨(y.ah.getD 0 bT).aG,eY (y.ah.getD 1 bT).ah,eU b (y.ah.getD 2 bT)⟩:=by
 unfold sO;rw[if_neg (by rintro⟨e1,e2⟩;rcases h with e|e;(rw[e] at e1;cases e1);exact e2 e)];rfl
theorem aga{y:aj}(h:y.ah.length≠3):sO true y=⟨[],[],l6⟩:=if_pos ⟨rfl,h⟩
theorem Zw(x:aj)(hsz:x.sz<=1048576):aC prog 117 [x.v] (.dN [(true,(oW x).cv),(false,[.d (.b (wZ x))])]):=aC.of_le fun S=>by
 have h1:=eD x;have hds:=Rw false x;have hos:=al0 (x:=AY false x) (by omega);have hgs:=fun i=>uT x i (m:=4194304) (by omega);obtain⟨l,hl⟩:∃l,l=x.ah.drop 7:=⟨_,rfl⟩
 have hll:l.length<=4194304:=by rw[hl,List.length_drop];omega
 have hlm:∀y∈l,y.sz<=4194304:=fun y hy=>by have:=gZ (List.mem_of_mem_drop (hl▸hy));omega
 obtain⟨F,hF⟩:∃F,F=AY false x:=⟨_,rfl⟩;obtain⟨z,TG⟩:∃z,z=x.ah.getD 6 bT:=⟨_,rfl⟩;have hzz:=hgs 6;rw[<-TG] at hzz
 have f1:F.bG=(x.ah.getD 1 bT).aG:=by rw[hF];rfl
 have f2:F.aF=eY (x.ah.getD 2 bT).ah:=by rw[hF];rfl
 have f3:F.bO=dP false (x.ah.getD 3 bT):=by rw[hF];rfl
 have f4:F.dh=(x.ah.getD 4 bT).ah.map (nV false):=by rw[hF];rfl
 have f5:F.gQ=decide ((0:Int)<((x.ah.getD 5 bT).ah.length:Int)):=by rw[hF];show decide (0<(x.ah.getD 5 bT).ah.length)=_;exact decide_eq_decide.2 (by omega)
 have f6:F.eH=decide (0<z.ah.length):=by rw[hF,TG];rfl
 have f7:F.bI=if 0<z.ah.length then dP false (gX z.ah 0) else jd:=by rw[hF,TG];rfl
 obtain⟨T,hT⟩:∃T:Nat->List (List D),T=fun i=>((l.map (sO false)).take i).map bX.enc:=⟨_,rfl⟩
 have hT0:T 0=[]:=by rw[hT];rfl
 have fP:∀i,(T i).length<=i:=fun i=>by rw[hT];simp only[List.length_map];exact List.length_take_le _ _
 have hTs:∀i (hi:i<l.length),T i++[(sO false l[i]).enc]=T (i+1):=fun i hi=>by
  have:=Dw (e:=bX.enc) (l:=l.map (sO false)) (i:=i) (by rw[List.length_map];exact hi);rw[List.getElem_map] at this;rw[hT];exact this
 have hTe:T l.length=F.aN.map bX.enc:=by
  rw[hT];simp only
  rw[List.take_of_length_le (by simp),hF,hl];rfl
 clear hT
 have fU:wZ x=false->Less (.dN [(true,w9),(false,[.d (.b false)])]) (.dN [(true,(oW x).cv),(false,[.d (.b (wZ x))])]):=fun e=>by
  rw[e];exact arO _ (XK e) false
 have c2:=rR _ (hgs 2);have c3:=qd (x.ah.getD 3 bT) (hgs 3);have c4:=Jz _ (hgs 4);rw[<-f2] at c2;rw[<-f3] at c3;rw[<-f4] at c4;refine(show Hold ?T->_ from fun tail=> ?main) ?tp
 case' main=>
  refine zcx [.cell 2 107,.tmp 3] func117 ntmps117 ?_;refine W1 ?_;refine C1 (fG x 1 (by omega) (by omega)) ?_;refine C1 (fG x 2 (by omega) (by omega)) ?_;refine aX c2 ?_;refine W1 ?_;refine C1 (fG x 3 (by omega) (by omega)) ?_;refine aX c3 ?_;refine W1 ?_;refine C1 (fG x 4 (by omega) (by omega)) ?_;refine aX c4 ?_;refine W1 ?_;refine C1 (fG x 5 (by omega) (by omega)) ?_;refine W3 ?_;refine C1 (fG x 6 (by omega) (by omega)) ?_;rw[<-TG];refine S0 (fun hb h=>?_) fun hb h=>?_
  ·have hpos:0<z.ah.length:=by omega
   rw[if_pos hpos,jC hpos] at f7;have hz0:=xD z hpos;have c7:=qd z.ah[0] (by omega);rw[<-f7] at c7;have XM:F.eH=true:=f6.trans (decide_eq_true hpos);refine W3 ?_;refine aX c7 ?_;refine W1 ?_;refine W3 ?_;refine C1 (xW x 7 (by omega)) ?_;rw[<-hl,<-f1,<-f5];refine ow 2 11 11 _ rfl rfl ?_
   refine nP (st':=[.box [.d (.s x.aG),.d (.sl (x.ah.map aj.enc))],.box w9,.box [.d (.s F.bG),.d (.sl (F.aF.map encS)),.d (.i .i64 F.bO.aM),.d (.s F.bO.fName),.d (.sl (F.bO.fArgs.map ak.enc)),.d (.sl (F.dh.map bS.enc)),.d (.b F.gQ),.d (.b F.eH),.d (.i .i64 F.bI.aM),.d (.s F.bI.fName),.d (.sl (F.bI.fArgs.map ak.enc)),.bB (0,4) []],
    .box [.d (.s z.aG),.d (.sl (z.ah.map aj.enc))],.tok 11 []]::S) [1,2,4,6,7] [.c (.ptr (0,0) 0),.c (.ptr (0,1) 0),.c (.ptr (0,2) 0),.c (.d (.sl (l.map aj.enc))),.c (.d (.i .i64 0))] ?_ ?_ ?_
   ·rfl
   ·rw[XM];rfl
   ·exact tail.out
  ·have hpos:¬0<z.ah.length:=by omega
   rw[if_neg hpos] at f7;have XM:F.eH=false:=f6.trans (decide_eq_false hpos);refine C1 (xW x 7 (by omega)) ?_;rw[<-hl,<-f1,<-f5];refine I5 2 _ _ rfl (Fx (eT []) 10 _ rfl) ?_;refine ow 2 11 11 _ rfl rfl ?_
   refine nP (st':=[.box [.d (.s x.aG),.d (.sl (x.ah.map aj.enc))],.box w9,.box [.d (.s F.bG),.d (.sl (F.aF.map encS)),.d (.i .i64 F.bO.aM),.d (.s F.bO.fName),.d (.sl (F.bO.fArgs.map ak.enc)),.d (.sl (F.dh.map bS.enc)),.d (.b F.gQ),.d (.b F.eH),.d (.i .i64 F.bI.aM),.d (.s F.bI.fName),.d (.sl (F.bI.fArgs.map ak.enc)),.bB (0,4) []],
    .box [.d (.s z.aG),.d (.sl (z.ah.map aj.enc))],.tok 11 []]::S) [1,2,4,6,7] [.c (.ptr (0,0) 0),.c (.ptr (0,1) 0),.c (.ptr (0,2) 0),.c (.d (.sl (l.map aj.enc))),.c (.d (.i .i64 0))] ?_ ?_ ?_
   ·rfl
   ·rw[XM,f7];rfl
   ·exact tail.out
 refine⟨?_⟩
 refine aR (ι:=Nat) zmx rfl [1,2,4,6,7] (fun i=>[.c (.ptr (0,0) 0),.c (.ptr (0,1) 0),.c (.ptr (0,2) 0),.c (.d (.sl (l.map aj.enc))),.c (.d (.i .i64 i))])
  (fun i=>[.box [.d (.s x.aG),.d (.sl (x.ah.map aj.enc))],.box w9,.box [.d (.s F.bG),.d (.sl (F.aF.map encS)),.d (.i .i64 F.bO.aM),.d (.s F.bO.fName),.d (.sl (F.bO.fArgs.map ak.enc)),.d (.sl (F.dh.map bS.enc)),.d (.b F.gQ),.d (.b F.eH),.d (.i .i64 F.bI.aM),.d (.s F.bI.fName),.d (.sl (F.bI.fArgs.map ak.enc)),.bB (0,4) (T i)],
    .box [.d (.s z.aG),.d (.sl (z.ah.map aj.enc))],.tok 11 (T i)]::S)
  (fun i=>i<=l.length) (fun i=>l.length-i) 0 rfl (by rw[hT0]) (Nat.zero_le _) ?_
 intro i hi;have hl':=fP i;refine W1 ?_;refine S0 (fun hb h=>?_) fun hb h=>?_
 ·have hi':i<l.length:=by omega
  have hz:=hlm _ (List.getElem_mem hi');have hs:=hTs i hi';have hg:=fun k=>uT l[i] k hz;rw[XL (b:=false) (.inl rfl)] at hs;simp only[bX.aQ,ay.aQ,ak.aQ,List.cons_append,List.nil_append] at hs;refine W3 ?_;refine C1 (fG l[i] 0 hz (by omega)) ?_;refine W3 ?_;refine C1 (fG l[i] 1 hz (by omega)) ?_;refine C1 (rR _ (hg 1)) ?_;refine W3 ?_;refine C1 (fG l[i] 2 hz (by omega)) ?_;refine C1 (Gb (l[i].ah.getD 2 bT) (hg 2)) ?_;refine W3 ?_;rw[hs];exact bL 5 (by decide) (i+1) (by omega) rfl rfl rfl rfl (by omega)
 ·have hi':i=l.length:=by omega
  subst hi';rw[hTe];clear hTs;refine C1 (ng x (by omega)) ?_;refine S0 (fun hb h=>?_) fun hb h=>?_
  ·exact fU (aK fun e=>by rw[e.1] at h;cases h)
  have hv:=h;refine S0 (fun hb h=>?_) fun hb h=>?_
  ·exact fU (aK fun e=>by omega)
  have hne:x.ah≠[]:=fun e=>by rw[e] at h;exact h rfl
  have hok:=ajq hne;rw[hv,Bool.true_and] at hok;rw[<-hF] at hok hos hds;refine W3 ?_;refine C1 (NC F (by omega)) ?_;refine C1 (tF (AX F) x (by omega)) ?_;refine S0 (fun hb h=>?_) fun hb h=>?_
  ·exact fU (by rw[hok];exact aK h)
  ·have hy:wZ x=true:=by rw[hok];exact bD h
   rw[aax hy,hy,<-ajr hy,<-hF];exact gu _
theorem XO(x:aj)(n:Nat)(hsz:x.sz<=1048576)(hf:dI x=true/\7<=x.ah.length/\dK x.ah 0=kH):aC prog 101 [x.v] (.dN [(true,(oW x).cl n (pI (oW x) n) (qI (oW x) n) (rI (oW x) n)),(false,[.d (.b (wZ x))])]):=aC.of_le fun S=>by
 have h1:=eD x;have hds:=Rw true x;obtain⟨F,hF⟩:∃F,F=AY true x:=⟨_,rfl⟩;obtain⟨p,hp⟩:∃p,p=pI F n:=⟨_,rfl⟩;obtain⟨q,hq⟩:∃q,q=qI F n:=⟨_,rfl⟩;obtain⟨r,hr0⟩:∃r,r=rI F n:=⟨_,rfl⟩
 have fU:wZ x=false->Less (.dN [(true,w9),(false,[.d (.b false)])]) (.dN [(true,(oW x).cl n (pI (oW x) n) (qI (oW x) n) (rI (oW x) n)),(false,[.d (.b (wZ x))])]):=fun e=>by
  rw[e];exact af9 _ (XK e) n _ _ _ false
 have tY:=qZ hf.1
 have hfo:gP x=true:=by have:=hf.1;unfold dI at this;rw[Bool.and_eq_true] at this;exact this.1
 have hlen:7<=x.ah.length:=hf.2.1;have hr:=gJ (l:=x.ah)
 have f1:F.bG=x.ah[1].aG:=by rw[hF];exact jM (by omega)
 have f2:F.aF=eY x.ah[2].ah:=by rw[hF,<-jC (l:=x.ah) (i:=2) (by omega)];rfl
 have f3:F.bO=dP true x.ah[3]:=by rw[hF,<-jC (l:=x.ah) (i:=3) (by omega)];rfl
 have f4:F.dh=x.ah[4].ah.map (nV true):=by rw[hF,<-jC (l:=x.ah) (i:=4) (by omega)];rfl
 have f5:F.gQ=decide ((0:Int)<(x.ah[5].ah.length:Int)):=by rw[hF,<-jC (l:=x.ah) (i:=5) (by omega)];show decide (0<(x.ah.getD 5 bT).ah.length)=_;exact decide_eq_decide.2 (by show _<->((0:Int)<((x.ah.getD 5 bT).ah.length:Int));omega)
 obtain⟨z,TG⟩:∃z,z=x.ah[6]:=⟨_,rfl⟩
 have f6:F.eH=decide (0<z.ah.length):=by rw[hF,TG,<-jC (l:=x.ah) (i:=6) (by omega)];rfl
 have f7:F.bI=if 0<z.ah.length then dP true (gX z.ah 0) else jd:=by rw[hF,TG,<-jC (l:=x.ah) (i:=6) (by omega)];rfl
 have hzs:=fun i hi=>xD x (i:=i) hi;have hzz:=hzs 6 (by omega);subst TG;have c2:=qD x.ah[2] (by have:=hzs 2 (by omega);omega) n;have c3:=qE x.ah[3] (n+1) (by have:=hzs 3 (by omega);omega);have c4:=JA x.ah[4] p (p+1) (by have:=hzs 4 (by omega);omega);rw[<-f2] at c2;rw[<-f3] at c3;rw[<-f4] at c4;obtain⟨l,hl⟩:∃l,l=x.ah.drop 7:=⟨_,rfl⟩
 have hll:l.length<=4194304:=by rw[hl,List.length_drop];omega
 have hlm:∀y∈l,y.sz<=1048576/\gP y=true:=fun y hy=>by
  have h2:=List.mem_of_mem_drop (hl▸hy);have:=gZ h2;exact⟨by omega,wY (FC hfo (fun e=>by rw[e] at h2;cases h2)) h2⟩
 obtain⟨L,hL⟩:∃L:Nat->Nat,L=fun i=>r+1+jf (((l.map (sO true)).take i).map bX.enc):=⟨_,rfl⟩;obtain⟨T,hT⟩:∃T:Nat->List (List D),T=fun i=>dX (((l.map (sO true)).take i).map bX.enc) (r+1):=⟨_,rfl⟩
 have hT0:T 0=[]:=by rw[hT];rfl
 have fP:∀i,(T i).length<=i:=fun i=>by rw[hT];simp only[kC,List.length_map];exact List.length_take_le _ _
 have hTr:∀i,∀r∈T i,r.length=11:=fun i=>by
  rw[hT]
  exact xA fun r hr=>by
   obtain⟨z,_,rfl⟩:=List.mem_map.1 hr;exact z.eB
 have hTs:∀i (hi:i<l.length),T i++[fQ (sO true l[i]).enc (L i)]=T (i+1):=fun i hi=>by
  have:=Bv (e:=bX.enc) (l:=l.map (sO true)) (i:=i) (by rw[List.length_map];exact hi) (r+1);rw[List.getElem_map] at this;rw[hT,hL];exact this
 have hTe:T l.length=lMe F.aN (r+1):=by
  rw[hT];simp only
  rw[List.take_of_length_le (by simp),hF,hl];rfl
 clear hT hL;by_cases hpos:0<x.ah[6].ah.length
 case' pos=>
  refine lU (n) (rs:=[.cell 2 107,.tmp 3]) zmx func101 ntmps101 rfl rfl rfl rfl rfl ?_;refine W1 ?_;refine aX (uS x kH 7 (by omega) (by omega) (by omega)) ?_;simp -implicitDefEqProofs (disch:=omega) only[go_sem,bD hf];refine W3 ?_;refine aX c2 ?_;refine W1 ?_;refine W3 ?_;refine aX c3 ?_;refine W1 ?_;refine W3 ?_;refine aX c4 ?_;refine W1 ?_;refine W3 ?_;refine dZ (fun hb=> ?_) (fun hb=> ?_)<;>have h:=hb<;>(try simp only[wf_preprocess] at h)<;>(first|(exfalso;omega)|skip);simp -implicitDefEqProofs (disch:=omega) only[go_sem,hb];refine W3 ?_;rw[if_pos hpos,jC hpos] at f7;have hz0:=xD x.ah[6] hpos;have c7:=qE x.ah[6].ah[0] q (by omega);rw[<-f7] at c7;have XM:F.eH=true:=f6.trans (decide_eq_true hpos);refine W3 ?_;refine aX c7 ?_;refine W1 ?_;refine⟨⟨by omega,by omega,hr⟩,?_⟩;rw[oz _ _ _ (Nat.le_refl _),<-hl,<-f1,<-f5];refine W1 ?_;refine nS r 3 11 11 _ rfl rfl ?_;refine nP (st':=[.seed n,.box [.d (.s x.aG),.d (.sl (x.ah.map aj.enc))],.box w9,.box [.d (.s F.bG),.d (.ol n (F.aF.map encS)),.d (.i .i64 F.bO.aM),.d (.s F.bO.fName),.d (.ol (n+1) (lt F.bO.fArgs (n+1+1))),.d (.ol p (lB F.dh (p+1))),.d (.b F.gQ),.d (.b F.eH),.d (.i .i64 F.bI.aM),.d (.s F.bI.fName),.d (.ol q (lt F.bI.fArgs (q+1))),.bB (0,4) []],.eu r 11 []]::S) [1,2,5,54,55,56] [.c (.ptr (0,1) 0),.c (.ptr (0,2) 0),.c (.ptr (0,3) 0),.c (.d (.sl (l.map aj.enc))),.c (.d (.i .i64 l.length)),.c (.d (.i .i64 0))] ?_ ?_ ?_
  ·rfl
  ·rw[XM];rfl
 case' neg=>
  refine lU (n) (rs:=[.cell 2 107,.tmp 3]) zmx func101 ntmps101 rfl rfl rfl rfl rfl ?_;refine W1 ?_;refine aX (uS x kH 7 (by omega) (by omega) (by omega)) ?_;simp -implicitDefEqProofs (disch:=omega) only[go_sem,bD hf];refine W3 ?_;refine aX c2 ?_;refine W1 ?_;refine W3 ?_;refine aX c3 ?_;refine W1 ?_;refine W3 ?_;refine aX c4 ?_;refine W1 ?_;refine W3 ?_;refine dZ (fun hb=> ?_) (fun hb=> ?_)<;>have h:=hb<;>(try simp only[wf_preprocess] at h)<;>(first|(exfalso;omega)|skip);simp -implicitDefEqProofs (disch:=omega) only[go_sem,hb];refine W3 ?_;rw[if_neg hpos] at f7;have XM:F.eH=false:=f6.trans (decide_eq_false hpos);refine⟨⟨by omega,by omega,hr⟩,?_⟩;rw[oz _ _ _ (Nat.le_refl _),<-hl,<-f1,<-f5];refine W1 ?_;refine I5 3 _ _ rfl (Fx (dR q) 10 _ rfl) ?_;refine nS r 3 11 11 _ rfl rfl ?_;refine nP (st':=[.seed n,.box [.d (.s x.aG),.d (.sl (x.ah.map aj.enc))],.box w9,.box [.d (.s F.bG),.d (.ol n (F.aF.map encS)),.d (.i .i64 F.bO.aM),.d (.s F.bO.fName),.d (.ol (n+1) (lt F.bO.fArgs (n+1+1))),.d (.ol p (lB F.dh (p+1))),.d (.b F.gQ),.d (.b F.eH),.d (.i .i64 F.bI.aM),.d (.s F.bI.fName),.d (.ol q (lt F.bI.fArgs (q+1))),.bB (0,4) []],.eu r 11 []]::S) [1,2,5,54,55,56] [.c (.ptr (0,1) 0),.c (.ptr (0,2) 0),.c (.ptr (0,3) 0),.c (.d (.sl (l.map aj.enc))),.c (.d (.i .i64 l.length)),.c (.d (.i .i64 0))] ?_ ?_ ?_
  ·rfl
  ·rw[XM,f7];rfl
 all_goals
  refine aR (ι:=Nat×List (List D)) zmx rfl [1,2,5,54,55,56] (fun y=>[.c (.ptr (0,1) 0),.c (.ptr (0,2) 0),.c (.ptr (0,3) 0),.c (.d (.sl (l.map aj.enc))),.c (.d (.i .i64 l.length)),.c (.d (.i .i64 y.1))])
   (fun y=>[.seed n,.box [.d (.s x.aG),.d (.sl (x.ah.map aj.enc))],.box w9,.box [.d (.s F.bG),.d (.ol n (F.aF.map encS)),.d (.i .i64 F.bO.aM),.d (.s F.bO.fName),.d (.ol (n+1) (lt F.bO.fArgs (n+1+1))),.d (.ol p (lB F.dh (p+1))),.d (.b F.gQ),.d (.b F.eH),.d (.i .i64 F.bI.aM),.d (.s F.bI.fName),.d (.ol q (lt F.bI.fArgs (q+1))),.bB (0,4) y.2],.eu r 11 y.2]::S)
   (fun y=>y.1<=l.length/\iM y.2 (T y.1)) (fun y=>l.length-y.1) (0,[]) rfl rfl ⟨Nat.zero_le _,by rw[hT0];exact .nil⟩ ?_
  rintro⟨i,U⟩ ⟨p1,p2⟩;simp only at p1 p2;have hU1:=p2.length;have hU2:=fP i;have hU3:=p2.rows (hTr i);refine W1 ?_;refine S0 (fun hb h=>?_) fun hb h=>?_
  ·have hi':i<l.length:=by omega
   obtain⟨hz,hfy⟩:=hlm _ (List.getElem_mem hi');have hs:=hTs i hi';have hz1:=eD l[i];refine W3 ?_;refine S0 (fun hb h=>?_) fun hb h=>?_
   ·have hl3:l[i].ah.length=3:=by omega
    have hd:=XL (b:=true) (y:=l[i]) (.inr hl3);have g0:l[i].ah.getD 0 bT=l[i].ah[0]:=jC (by omega);have g1:l[i].ah.getD 1 bT=l[i].ah[1]:=jC (by omega);have g2:l[i].ah.getD 2 bT=l[i].ah[2]:=jC (by omega);rw[g0,g1,g2] at hd;rw[hd,XJ] at hs;have hy1:=xD l[i] (i:=1) (by omega);have hy2:=xD l[i] (i:=2) (by omega);refine W3 ?_;refine C1 (qD l[i].ah[1] (by omega) (L i)) ?_;refine W3 ?_;refine C1 (EJ l[i].ah[2] (L i+1) (Rv hfy (by omega)) (by omega)) ?_;refine W3 ?_;refine bL 5 (by decide) (i+1,_) (by simp only;omega) rfl rfl rfl rfl ⟨by simp only;omega,?_⟩
    simp only
    rw[<-hs];exact p2.snoc (.refl _)
   ·rw[aga (by omega),XJ] at hs;refine bL 5 (by decide) (i+1,_) (by simp only;omega) rfl rfl rfl rfl ⟨by simp only;omega,?_⟩
    simp only
    rw[<-hs];exact p2.snoc (.cons (.refl _) (.cons (oh _) (.cons (.refl _) (.cons (.refl _) (.cons (.refl _) (.cons (.refl _) (.cons (.refl _) (.cons (.refl _) (.cons (oh _) (.cons (oh _) (.cons (oh _) .nil)))))))))))
  ·have hi':i=l.length:=by omega
   subst hi';clear hTs;rw[hTe] at p2
   have hcl:Less (.agg [.d (.s F.bG),.d (.ol n (F.aF.map encS)),.d (.i .i64 F.bO.aM),.d (.s F.bO.fName),.d (.ol (n+1) (lt F.bO.fArgs (n+1+1))),.d (.ol p (lB F.dh (p+1))),.d (.b F.gQ),.d (.b F.eH),.d (.i .i64 F.bI.aM),.d (.s F.bI.fName),.d (.ol q (lt F.bI.fArgs (q+1))),.d (.sl U)]) F.v:=by
    have lab:∀(es:List (List D))(k j:Nat),oI (.d (.ol k (dX es j))) (.d (.sl es)):=fun es k j w σ S β v h=>(pO es j).rep (tK h);exact(fE.cons (.refl _) (.cons (GZ _ _) (.cons (.refl _) (.cons (.refl _) (.cons (lab _ _ _) (.cons (lab _ _ _) (.cons (.refl _) (.cons (.refl _) (.cons (.refl _) (.cons (.refl _) (.cons (lab _ _ _) (.cons (vM (p2.trans (pO _ _))) .nil)))))))))))).less
   rw[<-hF] at hds;refine jY (EM F (by omega)) (.cons hcl .nil) ?_;refine W1 ?_;refine S0 (fun hb h=>?_) fun hb h=>?_
   ·exact fU (aK fun e=>by rw[<-hF] at e;rw[e.2.2.1] at h;cases h)
   have hv:=h;have hz:=He hv;refine W3 ?_;refine jY (aC.less (EN F 0 hv (by omega)) (yX (oV F) 0)) (.cons hcl .nil) ?_;refine W1 ?_;refine C1 (qK (oV F) x (by omega)) ?_;refine S0 (fun hb h=>?_) fun hb h=>?_
   ·exact fU (aK fun e=>h (by rw[<-hF] at e;exact e.2.2.2))
   ·have hy:wZ x=true:=by
     unfold wZ;rw[<-hF];exact bD ⟨hf.1,hf.2,hv,h⟩
    rw[aax hy,hy,<-hF,<-hp,<-hq,<-hr0];exact(ig.cons (.cons (.refl _) (.cons (.refl _) (.cons (.refl _) (.cons (.refl _) (.cons (.refl _) (.cons (.refl _) (.cons (.refl _) (.cons (.refl _) (.cons (.refl _) (.cons (.refl _) (.cons (.refl _) (.cons (I6 p2) .nil)))))))))))) (.refl _)).less
theorem XP(x:aj)(n:Nat)(hsz:x.sz<=1048576):aC prog 101 [x.v] (.dN [(true,(oW x).cl n (pI (oW x) n) (qI (oW x) n) (rI (oW x) n)),(false,[.d (.b (wZ x))])]):=by
 by_cases hf:dI x=true/\7<=x.ah.length/\dK x.ah 0=kH
 ·exact XO x n hsz hf
 ·refine aC.of_le fun S=> ?_
  have fU:wZ x=false->Less (.dN [(true,w9),(false,[.d (.b false)])]) (.dN [(true,(oW x).cl n (pI (oW x) n) (qI (oW x) n) (rI (oW x) n)),(false,[.d (.b (wZ x))])]):=fun e=>by
   rw[e];exact af9 _ (XK e) n _ _ _ false
  refine zcx [.cell 2 107,.tmp 3] func101 ntmps101 ?_;refine W1 ?_;refine C1 (uS x kH 7 (by omega) (by omega) (by omega)) ?_;refine S0 (fun hb h=>?_) fun hb h=>?_
  ·exact fU (aK fun e=>hf ⟨e.1,e.2.1.1,e.2.1.2⟩)
  ·exact absurd h hf
end Go.Ab