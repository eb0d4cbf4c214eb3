/-
  SEVERAL TEXTS IN ONE (merged by program): contracts and models, each with its own heading.
-/
import Derived.Test.YtbaefeecjjhhkaaGreatDoorPartOcbN
import Derived.Test.YtbaefeecjjhhkaaGreatDoorPartOcbQ
open Go.Proofs Go.Proofs.Tryz
set_option linter.unusedSimpArgs false
set_option linter.unusedVariables false
set_option maxRecDepth 4000
namespace Go.Ab
def Rx:bg:=⟨[],[],jd,false,[],l6⟩
def xX(b:Bool)(l:List aj):Bool:=match b with
 |true=>decide (l.length=5)
 |false=>decide (3<l.length)
def jO(b:Bool)(y:aj):bg:=if b=true/\y.ah.length<3 then Rx else
 ⟨dK y.ah 0,(gX y.ah 1).ah.map (dP b),dP b (gX y.ah 2),xX b y.ah,if xX b y.ah=true then nC y.ah 3 else [],if xX b y.ah=true then eU b (gX y.ah 4) else l6⟩
def rT(b:Bool)(x:aj):bE:=
 ⟨dK x.ah 1,nC x.ah 2,decide (tH∈nC x.ah 3),decide (iW∈nC x.ah 3),(x.ah.drop 4).map (jO b)⟩
theorem agc{g:bg}(h:iK g=true):(g.iT=true->∀v∈g.aF,v≠[])/\(g.iT=false->g.aF=[]/\g.fBody=l6):=by
 unfold iK at h;simp only[Bool.and_eq_true] at h;obtain⟨_,_,_,_,h3⟩:=h;refine⟨fun hd=> ?_,fun hd=> ?_⟩
 ·rw[if_pos hd,Bool.and_eq_true] at h3;have:=h3.2;unfold nA at this;rw[Bool.and_eq_true] at this;exact y8 this.1
 ·rw[if_neg (by rw[hd];decide),Bool.and_eq_true] at h3;exact⟨List.eq_nil_of_length_eq_zero (gq h3.1),gq h3.2⟩
theorem agd(b:Bool){g:bg}(h:iK g=true):jO b (nZ g)=g:=by
 obtain⟨h1,h2,h3⟩:=rA h;obtain⟨h4,h5⟩:=agc h;unfold jO
 cases hd:g.iT with
 |true=>
  rw[AZ hd,if_neg (by simp)]
  have e:xX b [bF g.fName,bq (g.aY.map bZ),bZ g.bU,bq (aP g.aF),fu g.fBody]=true:=by cases b<;>rfl
  rw[e,if_pos rfl,if_pos rfl];show bg.mk g.fName ((g.aY.map bZ).map (dP b)) (dP b (bZ g.bU)) true (eY (aP g.aF)) (eU b (fu g.fBody))=g;rw[F8 b h1,xC b _ h2,nT (h4 hd),G7 b _ (h3 hd),<-hd]
 |false=>
  rw[A8 hd,if_neg (by simp)]
  have e:xX b [bF g.fName,bq (g.aY.map bZ),bZ g.bU]=false:=by cases b<;>rfl
  rw[e,if_neg (by decide),if_neg (by decide)];show bg.mk g.fName ((g.aY.map bZ).map (dP b)) (dP b (bZ g.bU)) false [] l6=g;obtain⟨e1,e2⟩:=h5 hd;rw[F8 b h1,xC b _ h2,<-e2]
  conv=>lhs;rw[<-e1,<-hd]
theorem Ry{t:bE}(h:dM t=true):∀v∈t.bM,v≠[]:=by
 unfold dM at h;simp only[Bool.and_eq_true] at h;exact y8 h.2.2.1
theorem agf(t:bE):∀v∈lW t,v≠[]:=fun v hv=>by
 unfold lW at hv;rw[List.mem_append] at hv;rcases hv with h|h
 ·split at h
  ·rw[List.mem_singleton.1 h];decide
  ·cases h
 ·split at h
  ·rw[List.mem_singleton.1 h];decide
  ·cases h
theorem Qh(t:bE):decide (tH∈lW t)=t.oD/\decide (iW∈lW t)=t.bI:=by
 unfold lW;cases t.oD<;>cases t.bI<;>exact⟨by decide,by decide⟩
theorem Ba(b:Bool){t:bE}(h:dM t=true):rT b (jU t)=t:=by
 have h1:=(jF h).1;show bE.mk t.fName (eY (aP t.bM)) (decide (tH∈eY (aP (lW t)))) (decide (iW∈eY (aP (lW t)))) ((t.aA.map nZ).map (jO b))=t;rw[nT (Ry h),nT (agf t),(Qh t).1,(Qh t).2,EL fun c hc=>agd b (h1 c hc)]
noncomputable def uV(x:aj):Bool:=dec (dI x=true/\(4<=x.ah.length/\dK x.ah 0=jS)/\dM (rT true x)=true/\jU (rT true x)=x)
theorem agh{x:aj}(hx:x.ah≠[]):uV x=(dI x&&dec (uU (rT false x)=x)):=
 XC hx (fun a h1 h2=>by rw[<-h2];exact⟨Ba true h1,Ba false h1⟩) fun a h=>by rw[<-h];exact⟨by rw[jU,bY];simp[iX],rfl⟩
theorem agi{x:aj}(h:uV x=true):rT false x=rT true x:=by
 have h1:=gq h
 conv=>lhs;rw[<-h1.2.2.2]
 exact Ba false h1.2.2.1
def KX:bE:=⟨[],[],false,false,[]⟩
noncomputable def rU(x:aj):bE:=if uV x=true then rT true x else KX
theorem ajx(b:Bool)(l:List aj):bf ((l.map (dP b)).map ak.enc)<=cZ l:=by
 have:=I7 b l;rw[y5] at this;rw[Aw];exact this
theorem agj(b:Bool)(y:aj):(jO b y).sz<=y.sz:=by
 have h1:=Cj y.ah;have h2:=qg y;have h3:=qg (gX y.ah 0);have h4:=ajx b (gX y.ah 1).ah;have h4':=qg (gX y.ah 1);have h5:=y7 b (gX y.ah 2);have h6:=ru (gX y.ah 3).ah;have h6':=qg (gX y.ah 3);have h7:=DJ b (gX y.ah 4);unfold jO;split
 ·simp only[Rx,bg.sz,bg.aQ,dz,bW,D.sz,ak.iD,ay.iD,Ce,y9,List.map_nil,bf,List.length_nil];omega
 ·cases xX b y.ah with
  |true=>
   simp only[if_true,bg.sz,bg.aQ,dz,bW,D.sz,ak.iD,ay.iD,List.length_map,nC,dB,FD];omega
  |false=>
   simp only[Bool.false_eq_true,if_false,bg.sz,bg.aQ,dz,bW,D.sz,ak.iD,ay.iD,List.length_map,y9,List.map_nil,bf,List.length_nil,FD];omega
theorem Qi(b:Bool):∀l:List aj,bf ((l.map (jO b)).map bg.enc)<=cZ l
 |[]=>by simp[bf]
 |y::l=>by
  have h1:=agj b y;have h2:=Qi b l;rw[List.map_cons,List.map_cons,bf,cZ];simp only[bg.sz] at h1;omega
theorem ND(b:Bool)(x:aj):(rT b x).sz<=x.sz:=by
 have h1:=EK x.ah;have h2:=qg x;have h3:=qg (gX x.ah 1);have h4:=ru (gX x.ah 2).ah;have h4':=qg (gX x.ah 2);have h5:=Qi b (x.ah.drop 4);simp only[bE.sz,bE.aQ,dz,bW,D.sz,rT,List.length_map,List.length_drop,nC,dB,FD];omega
def q2S(x:bg)(q:Nat):Nat:=q+(fZ x.aY+1)
def q3S(x:bg)(q:Nat):Nat:=q2S x q+(fZ x.bU.fArgs+1)
def TH(x:bg)(q:Nat):Nat:=q3S x q+1
theorem KY(x:bg)(q:Nat):fQ x.enc q=[.s x.fName,.ol q (lt x.aY (q+1)),.i .i64 x.bU.aM,.s x.bU.fName,.ol (q2S x q) (lt x.bU.fArgs (q2S x q+1)),.b x.iT,.ol (q3S x q) (x.aF.map encS),
 .i .i64 x.fBody.aM,.s x.fBody.bG,.s x.fBody.fName,.i .i64 x.fBody.fN,.i .i64 x.fBody.fType.aM,.s x.fBody.fType.fName,.ol (TH x q) (lt x.fBody.fType.fArgs (TH x q+1)),
 .ol (TH x q+(fZ x.fBody.fType.fArgs+1)) (lE x.fBody.fArgs (TH x q+(fZ x.fBody.fType.fArgs+1)+1)),.ol (TH x q+(fZ x.fBody.fType.fArgs+1)+(lK x.fBody.fArgs+1)) (lM x.fBody.aS (TH x q+(fZ x.fBody.fType.fArgs+1)+(lK x.fBody.fArgs+1)+1))]:=by
 simp only[bg.aQ,ay.aQ,ak.aQ,List.cons_append,List.nil_append,fQ,tZ,uP,Nat.add_zero,lt,lE,lM,fZ,lK,q2S,q3S,TH,uQ,wX,Nat.zero_add]
def ajy(l:List bg)(n:Nat):List (List D):=dX (l.map bg.enc) n
abbrev bE.cl(x:bE)(n:Nat):List C:=[.d (.s x.fName),.d (.ol n (x.bM.map encS)),.d (.b x.oD),.d (.b x.bI),.d (.ol (n+1) (ajy x.aA (n+1+1)))]
abbrev bE.cv(x:bE):List C:=[.d (.s x.fName),.d (.sl (x.bM.map encS)),.d (.b x.oD),.d (.b x.bI),.d (.sl (x.aA.map bg.enc))]
theorem XQ(x:bE)(n:Nat):(fQ x.enc n).map C.d=x.cl n:=by
 simp only[bE.aQ,fQ,tZ,uP,Nat.add_zero,ajy,uQ,wX,Nat.zero_add,List.map_cons,List.map_nil];rfl
theorem XR(x:bE)(n:Nat):Less (.agg (x.cl n)) x.v:=by
 have:=IQ (r:=x.enc) (n:=n);rw[XQ,bE.M5] at this;exact this
theorem aaz{x:aj}(h:uV x=false):rU x=KX:=if_neg (by rw[h];decide)
theorem XT{x:aj}(h:uV x=true):rU x=rT true x:=if_pos h
abbrev Hg:List C:=[.d (.s []),.bn [],.d (.b false),.d (.b false),.bn []]
theorem apH(e:bE)(h:e=KX)(ok:Bool):Less (.dN [(true,Hg),(false,[.d (.b ok)])]) (.dN [(true,e.cv),(false,[.d (.b ok)])]):=by
 rw[h];exact(ig.cons (.cons (.refl _) (.cons (eT _) (.cons (.refl _) (.cons (.refl _) (.cons (eT _) .nil))))) (.refl _)).less
theorem al3(e:bE)(h:e=KX)(n:Nat)(ok:Bool):Less (.dN [(true,Hg),(false,[.d (.b ok)])]) (.dN [(true,e.cl n),(false,[.d (.b ok)])]):=by
 rw[h];exact(ig.cons (.cons (.refl _) (.cons (dR _) (.cons (.refl _) (.cons (.refl _) (.cons (dR _) .nil))))) (.refl _)).less
theorem ZB{y:aj}(h:y.ah.length=5):jO true y=⟨y.ah[0].aG,y.ah[1].ah.map (dP true),dP true y.ah[2],true,eY y.ah[3].ah,eU true y.ah[4]⟩:=by
 unfold jO;rw[if_neg (by omega),show xX true y.ah=true from decide_eq_true h,if_pos rfl,if_pos rfl,jM (by omega),jC (by omega:1<y.ah.length),jC (by omega:2<y.ah.length),jC (by omega:4<y.ah.length)];unfold nC;rw[jC (by omega:3<y.ah.length)]
theorem ZC{y:aj}(h:3<=y.ah.length)(h5:y.ah.length≠5):jO true y=⟨y.ah[0].aG,y.ah[1].ah.map (dP true),dP true y.ah[2],false,[],l6⟩:=by
 unfold jO;rw[if_neg (by omega),show xX true y.ah=false from decide_eq_false h5,if_neg (by decide),if_neg (by decide),jM (by omega),jC (by omega:1<y.ah.length),jC (by omega:2<y.ah.length)]
theorem ZE{y:aj}(h:y.ah.length<3):jO true y=Rx:=if_pos ⟨rfl,h⟩
theorem XU{y:aj}(h:3<y.ah.length):jO false y=⟨(y.ah.getD 0 bT).aG,(y.ah.getD 1 bT).ah.map (dP false),dP false (y.ah.getD 2 bT),true,eY (y.ah.getD 3 bT).ah,eU false (y.ah.getD 4 bT)⟩:=by
 unfold jO;rw[if_neg (by simp),show xX false y.ah=true from decide_eq_true h];rfl
theorem XV{y:aj}(h:¬3<y.ah.length):jO false y=⟨(y.ah.getD 0 bT).aG,(y.ah.getD 1 bT).ah.map (dP false),dP false (y.ah.getD 2 bT),false,[],l6⟩:=by
 unfold jO;rw[if_neg (by simp),show xX false y.ah=false from decide_eq_false h];rfl
theorem adl:l6.enc=[.i .i64 0,.s [],.s [],.i .i64 0,.i .i64 0,.s [],.sl [],.sl [],.sl []]:=by
 rw[ay.aQ];rfl
theorem FE(x:aj){m:Nat}(h:x.sz<=m):(eY x.ah).length<=m:=by
 have:=(ru x.ah).1;have:=eD x;omega
theorem XW(x:aj)(hsz:x.sz<=1048576):aC prog 115 [x.v] (.dN [(true,(rU x).cv),(false,[.d (.b (uV x))])]):=aC.of_le fun S=>by
 have h1:=eD x;have hds:=ND false x;have hos:=ajt (x:=rT false x) (by omega);have hgs:=fun i=>uT x i (m:=4194304) (by omega);obtain⟨l,hl⟩:∃l,l=x.ah.drop 4:=⟨_,rfl⟩
 have hll:l.length<=4194304:=by rw[hl,List.length_drop];omega
 have hlm:∀y∈l,y.sz<=4194304:=fun y hy=>by have:=gZ (List.mem_of_mem_drop (hl▸hy));omega
 obtain⟨F,hF⟩:∃F,F=rT false x:=⟨_,rfl⟩
 have f1:F.fName=(x.ah.getD 1 bT).aG:=by rw[hF];rfl
 have f2:F.bM=eY (x.ah.getD 2 bT).ah:=by rw[hF];rfl
 have f3:F.oD=dec (tH∈eY (x.ah.getD 3 bT).ah):=by rw[hF,<-j5];rfl
 have f4:F.bI=dec (iW∈eY (x.ah.getD 3 bT).ah):=by rw[hF,<-j5];rfl
 obtain⟨T,hT⟩:∃T:Nat->List (List D),T=fun i=>((l.map (jO false)).take i).map bg.enc:=⟨_,rfl⟩
 have hT0:T 0=[]:=by rw[hT];rfl
 have fP:∀i,(T i).length<=i:=fun i=>by rw[hT];simp only[List.length_map];exact List.length_take_le _ _
 have hTs:∀i (hi:i<l.length),T i++[(jO false l[i]).enc]=T (i+1):=fun i hi=>by
  have:=Dw (e:=bg.enc) (l:=l.map (jO false)) (i:=i) (by rw[List.length_map];exact hi);rw[List.getElem_map] at this;rw[hT];exact this
 have hTe:T l.length=F.aA.map bg.enc:=by
  rw[hT];simp only
  rw[List.take_of_length_le (by simp),hF,hl];rfl
 clear hT
 have fU:uV x=false->Less (.dN [(true,Hg),(false,[.d (.b false)])]) (.dN [(true,(rU x).cv),(false,[.d (.b (uV x))])]):=fun e=>by
  rw[e];exact apH _ (aaz e) false
 have c2:=rR _ (hgs 2);have c3:=rJ (eY (x.ah.getD 3 bT).ah) tH (by have:=FE _ (hgs 3);omega);have c4:=rJ (eY (x.ah.getD 3 bT).ah) iW (by have:=FE _ (hgs 3);omega);rw[<-f2] at c2;rw[<-f3] at c3;rw[<-f4] at c4;refine zcx [.cell 2 95,.tmp 3] func115 ntmps115 ?_;refine W1 ?_;refine C1 (fG x 3 (by omega) (by omega)) ?_;refine C1 (rR _ (hgs 3)) ?_;refine C1 (fG x 1 (by omega) (by omega)) ?_;refine C1 (fG x 2 (by omega) (by omega)) ?_;refine aX c2 ?_;refine W1 ?_;refine aX c3 ?_;refine W1 ?_;refine aX c4 ?_;refine W1 ?_;refine W3 ?_;refine C1 (xW x 4 (by omega)) ?_;rw[<-hl,<-f1];refine ow 2 4 16 _ rfl rfl ?_
 refine aR (ι:=Nat) zmx rfl [1,2,5,6,7] (fun i=>[.c (.ptr (0,0) 0),.c (.ptr (0,1) 0),.c (.ptr (0,2) 0),.c (.d (.sl (l.map aj.enc))),.c (.d (.i .i64 i))])
  (fun i=>[.box [.d (.s x.aG),.d (.sl (x.ah.map aj.enc))],.box Hg,.box [.d (.s F.fName),.d (.sl (F.bM.map encS)),.d (.b F.oD),.d (.b F.bI),.bB (0,3) (T i)],.tok 16 (T i)]::S)
  (fun i=>i<=l.length) (fun i=>l.length-i) 0 rfl (by rw[hT0];rfl) (Nat.zero_le _) ?_
 intro i hi;have hl':=fP i;refine W1 ?_;refine S0 (fun hb h=>?_) fun hb h=>?_
 ·have hi':i<l.length:=by omega
  have hz:=hlm _ (List.getElem_mem hi');have hs:=hTs i hi';have hg:=fun k=>uT l[i] k hz;have hg1:=hg 1;have atC:=eD (l[i].ah.getD 1 bT);have hz1:=eD l[i];refine W3 ?_;refine C1 (fG l[i] 0 hz (by omega)) ?_;refine W3 ?_;refine C1 (fG l[i] 1 hz (by omega)) ?_;refine C1 (Jy (l[i].ah.getD 1 bT).ah (by omega) (fun t ht=>by have:=gZ ht;omega)) ?_;refine W3 ?_;refine C1 (fG l[i] 2 hz (by omega)) ?_;refine C1 (qd (l[i].ah.getD 2 bT) (hg 2)) ?_;refine W3 ?_;refine S0 (fun hb h=>?_) fun hb h=>?_
  ·rw[XU (by omega)] at hs;simp only[bg.aQ,ay.aQ,ak.aQ,List.cons_append,List.nil_append] at hs;refine W3 ?_;refine C1 (fG l[i] 3 hz (by omega)) ?_;refine C1 (rR _ (hg 3)) ?_;refine W3 ?_;refine C1 (fG l[i] 4 hz (by omega)) ?_;refine C1 (Gb (l[i].ah.getD 4 bT) (hg 4)) ?_;refine W3 ?_;rw[hs];exact bL 4 (by decide) (i+1) (by omega) rfl rfl rfl rfl (by omega)
  ·rw[XV (by omega)] at hs;simp only[bg.aQ,adl,ak.aQ,List.cons_append,List.nil_append,List.map_nil] at hs;refine W3 ?_;rw[hs];exact bL 4 (by decide) (i+1) (by omega) rfl rfl rfl rfl (by omega)
 ·have hi':i=l.length:=by omega
  subst hi';rw[hTe];clear hTs;refine C1 (ng x (by omega)) ?_;refine S0 (fun hb h=>?_) fun hb h=>?_
  ·exact fU (aK fun e=>by rw[e.1] at h;cases h)
  have hv:=h;refine S0 (fun hb h=>?_) fun hb h=>?_
  ·exact fU (aK fun e=>by omega)
  have hne:x.ah≠[]:=fun e=>by rw[e] at h;exact h rfl
  have hok:=agh hne;rw[hv,Bool.true_and] at hok;rw[<-hF] at hok hos hds;refine W3 ?_;refine C1 (KW F (by omega)) ?_;refine C1 (tF (uU F) x (by omega)) ?_;refine S0 (fun hb h=>?_) fun hb h=>?_
  ·exact fU (by rw[hok];exact aK h)
  ·have hy:uV x=true:=by rw[hok];exact bD h
   rw[XT hy,hy,<-agi hy,<-hF];exact gu _
theorem NG(x:aj)(n:Nat)(hfo:gP x=true)(hlen:4<=x.ah.length)(hsz:x.sz<=1048576):aC prog 152 [x.v] (.agg ((rT true x).cl n)):=aC.of_le fun S=>by
 have h1:=eD x;obtain⟨F,hF⟩:∃F,F=rT true x:=⟨_,rfl⟩;have hr:=gJ (l:=x.ah);have hzs:=fun i hi=>xD x (i:=i) hi;have hz2:=hzs 2 (by omega);have hz3:=hzs 3 (by omega)
 have f1:F.fName=x.ah[1].aG:=by rw[hF];exact jM (by omega)
 have f2:F.bM=eY x.ah[2].ah:=by rw[hF,<-jC (l:=x.ah) (i:=2) (by omega)];rfl
 have f3:F.oD=dec (tH∈eY x.ah[3].ah):=by rw[hF,<-j5,<-jC (l:=x.ah) (i:=3) (by omega)];rfl
 have f4:F.bI=dec (iW∈eY x.ah[3].ah):=by rw[hF,<-j5,<-jC (l:=x.ah) (i:=3) (by omega)];rfl
 obtain⟨l,hl⟩:∃l,l=x.ah.drop 4:=⟨_,rfl⟩
 have hll:l.length<=4194304:=by rw[hl,List.length_drop];omega
 have hlm:∀y∈l,y.sz<=1048576/\gP y=true:=fun y hy=>by
  have h2:=List.mem_of_mem_drop (hl▸hy);have:=gZ h2;exact⟨by omega,wY (FC hfo (fun e=>by rw[e] at h2;cases h2)) h2⟩
 obtain⟨L,hL⟩:∃L:Nat->Nat,L=fun i=>n+1+1+jf (((l.map (jO true)).take i).map bg.enc):=⟨_,rfl⟩;obtain⟨T,hT⟩:∃T:Nat->List (List D),T=fun i=>dX (((l.map (jO true)).take i).map bg.enc) (n+1+1):=⟨_,rfl⟩
 have hT0:T 0=[]:=by rw[hT];rfl
 have fP:∀i,(T i).length<=i:=fun i=>by rw[hT];simp only[kC,List.length_map];exact List.length_take_le _ _
 have hTr:∀i,∀r∈T i,r.length=16:=fun i=>by
  rw[hT]
  exact xA fun r hr=>by
   obtain⟨z,_,rfl⟩:=List.mem_map.1 hr;exact z.eB
 have hTs:∀i (hi:i<l.length),T i++[fQ (jO true l[i]).enc (L i)]=T (i+1):=fun i hi=>by
  have:=Bv (e:=bg.enc) (l:=l.map (jO true)) (i:=i) (by rw[List.length_map];exact hi) (n+1+1);rw[List.getElem_map] at this;rw[hT,hL];exact this
 have hTe:T l.length=ajy F.aA (n+1+1):=by
  rw[hT];simp only
  rw[List.take_of_length_le (by simp),hF,hl];rfl
 clear hT hL;have c2:=qD x.ah[2] (by omega) n;have c3:=rM (eY x.ah[3].ah) tH (by have:=FE _ hz3;omega);have c4:=rM (eY x.ah[3].ah) iW (by have:=FE _ hz3;omega);rw[<-f2] at c2;rw[<-f3] at c3;rw[<-f4] at c4;rw[<-hF];refine lU (n) (rs:=[.cell 2 95]) zmx func152 ntmps152 rfl rfl rfl rfl rfl ?_;refine W1 ?_;refine W3 ?_;refine C1 (qD x.ah[3] (by omega) 0) ?_;refine W3 ?_;refine aX c2 ?_;refine W1 ?_;refine jY c3 (.cons (LX _ _) (.cons (gu _) .nil)) ?_;refine W1 ?_;refine jY c4 (.cons (LX _ _) (.cons (gu _) .nil)) ?_;refine W1 ?_;refine⟨⟨by omega,by omega,hr⟩,?_⟩;rw[oz _ _ _ (Nat.le_refl _),<-hl,<-f1];refine W1 ?_;refine nS (n+1) 3 4 16 _ rfl rfl ?_
 refine aR (ι:=Nat×List (List D)) zmx rfl [2,4,30,31,32] (fun y=>[.c (.ptr (0,2) 0),.c (.ptr (0,3) 0),.c (.d (.sl (l.map aj.enc))),.c (.d (.i .i64 l.length)),.c (.d (.i .i64 y.1))])
  (fun y=>[.seed n,.box [.d (.s x.aG),.d (.sl (x.ah.map aj.enc))],.box Hg,.box [.d (.s F.fName),.d (.ol n (F.bM.map encS)),.d (.b F.oD),.d (.b F.bI),.bB (0,4) y.2],.eu (n+1) 16 y.2]::S)
  (fun y=>y.1<=l.length/\iM y.2 (T y.1)) (fun y=>l.length-y.1) (0,[]) rfl rfl ⟨Nat.zero_le _,by rw[hT0];exact .nil⟩ ?_
 rintro⟨i,U⟩ ⟨p1,p2⟩;simp only at p1 p2;have hU1:=p2.length;have hU2:=fP i;have hU3:=p2.rows (hTr i);refine W1 ?_;refine S0 (fun hb h=>?_) fun hb h=>?_
 ·have hi':i<l.length:=by omega
  obtain⟨hz,hfy⟩:=hlm _ (List.getElem_mem hi');have hs:=hTs i hi';have hz1:=eD l[i];refine W3 ?_;refine S0 (fun hb h=>?_) fun hb h=>?_
  ·have hl3:3<=l[i].ah.length:=by omega
   have hy1:=xD l[i] (i:=1) (by omega);have atD:=eD l[i].ah[1];have hy2:=xD l[i] (i:=2) (by omega);refine W3 ?_;refine C1 (G8 l[i].ah[1].ah (L i) (L i+1) (by omega) (fun t ht=>by have:=gZ ht;omega)) ?_;refine W3 ?_;refine C1 (qE l[i].ah[2] (q2S (jO true l[i]) (L i)) (by omega)) ?_;refine W3 ?_;refine S0 (fun hb h=>?_) fun hb h=>?_
   ·have hl5:l[i].ah.length=5:=by omega
    have hy3:=xD l[i] (i:=3) (by omega);have hy4:=xD l[i] (i:=4) (by omega);have hd:=ZB hl5;refine W3 ?_;refine C1 (qD l[i].ah[3] (by omega) (q3S (jO true l[i]) (L i))) ?_;refine W3 ?_;refine C1 (EJ l[i].ah[4] (TH (jO true l[i]) (L i)) (Rv hfy (by omega)) (by omega)) ?_;refine W3 ?_;rw[KY] at hs;obtain⟨g,hg⟩:∃g,g=jO true l[i]:=⟨_,rfl⟩;rw[<-hg] at hs hd ⊢
    have e1:g.fName=l[i].ah[0].aG:=by rw[hd]
    have e2:g.aY=l[i].ah[1].ah.map (dP true):=by rw[hd]
    have e3:g.bU=dP true l[i].ah[2]:=by rw[hd]
    have e4:g.iT=true:=by rw[hd]
    have e5:g.aF=eY l[i].ah[3].ah:=by rw[hd]
    have e6:g.fBody=eU true l[i].ah[4]:=by rw[hd]
    rw[e1,e2,e3,e4,e5,e6] at hs;refine bL 5 (by decide) (i+1,_) (by simp only;omega) rfl rfl rfl rfl ⟨by simp only;omega,?_⟩
    simp only
    rw[<-hs];exact p2.snoc (.refl _)
   ·have hd:=ZC hl3 (by omega);refine W3 ?_;rw[KY] at hs;obtain⟨g,hg⟩:∃g,g=jO true l[i]:=⟨_,rfl⟩;rw[<-hg] at hs hd ⊢
    have e1:g.fName=l[i].ah[0].aG:=by rw[hd]
    have e2:g.aY=l[i].ah[1].ah.map (dP true):=by rw[hd]
    have e3:g.bU=dP true l[i].ah[2]:=by rw[hd]
    have e4:g.iT=false:=by rw[hd]
    have e5:g.aF=[]:=by rw[hd]
    have e6:g.fBody=l6:=by rw[hd]
    rw[e1,e2,e3,e4,e5,e6] at hs;refine bL 5 (by decide) (i+1,_) (by simp only;omega) rfl rfl rfl rfl ⟨by simp only;omega,?_⟩
    simp only
    rw[<-hs];exact p2.snoc (.cons (.refl _) (.cons (.refl _) (.cons (.refl _) (.cons (.refl _) (.cons (.refl _) (.cons (.refl _) (.cons (oh _) (.cons (.refl _) (.cons (.refl _) (.cons (.refl _) (.cons (.refl _) (.cons (.refl _) (.cons (.refl _) (.cons (oh _) (.cons (oh _) (.cons (oh _) .nil))))))))))))))))
  ·have hd:=ZE (y:=l[i]) (by omega);refine S0 (fun hb h=>?_) fun hb h=>?_
   ·omega
   ·refine W3 ?_;rw[hd,KY] at hs;refine bL 5 (by decide) (i+1,_) (by simp only;omega) rfl rfl rfl rfl ⟨by simp only;omega,?_⟩
    simp only
    rw[<-hs];exact p2.snoc (.cons (.refl _) (.cons (oh _) (.cons (.refl _) (.cons (.refl _) (.cons (oh _) (.cons (.refl _) (.cons (oh _) (.cons (.refl _) (.cons (.refl _) (.cons (.refl _) (.cons (.refl _) (.cons (.refl _) (.cons (.refl _) (.cons (oh _) (.cons (oh _) (.cons (oh _) .nil))))))))))))))))
 ·have hi':i=l.length:=by omega
  subst hi';rw[hTe] at p2;exact(fE.cons (.refl _) (.cons (.refl _) (.cons (.refl _) (.cons (.refl _) (.cons (I6 p2) .nil))))).less
theorem Uw(x:aj)(n:Nat)(hsz:x.sz<=1048576):aC prog 99 [x.v] (.dN [(true,(rU x).cl n),(false,[.d (.b (uV x))])]):=aC.of_le fun S=>by
 have hds:=ND true x
 have fU:uV x=false->Less (.dN [(true,Hg),(false,[.d (.b false)])]) (.dN [(true,(rU x).cl n),(false,[.d (.b (uV x))])]):=fun e=>by
  rw[e];exact al3 _ (aaz e) n false
 refine zcx [.cell 2 95,.tmp 3] func99 ntmps99 ?_;refine W1 ?_;refine C1 (uS x jS 4 (by omega) (by omega) (by omega)) ?_;refine S0 (fun hb h=>?_) fun hb h=>?_
 ·exact fU (aK fun e=>h ⟨e.1,e.2.1.1,e.2.1.2⟩)
 have hf:=h;have tY:=qZ hf.1
 have hfo:gP x=true:=by have:=hf.1;unfold dI at this;rw[Bool.and_eq_true] at this;exact this.1
 refine C1 (NG x n hfo hf.2.1 (by omega)) ?_;refine jY (C9 (rT true x) (by omega)) (.cons (XR _ n) .nil) ?_;refine W1 ?_;refine S0 (fun hb h=>?_) fun hb h=>?_
 ·exact fU (aK fun e=>by rw[e.2.2.1] at h;cases h)
 have hv:=h;have hz:=Hf hv;refine W3 ?_;refine jY (aC.less (CK (rT true x) 0 hv (by omega)) (yX (jU (rT true x)) 0)) (.cons (XR _ n) .nil) ?_;refine W1 ?_;refine C1 (qK (jU (rT true x)) x (by omega)) ?_;refine S0 (fun hb h=>?_) fun hb h=>?_
 ·exact fU (aK fun e=>h e.2.2.2)
 ·have hy:uV x=true:=bD ⟨hf.1,hf.2,hv,h⟩;rw[XT hy,hy];exact gu _
end Go.Ab