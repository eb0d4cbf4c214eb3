/-
  SEVERAL TEXTS IN ONE (merged by program): contracts and models, each with its own heading.
-/
import Derived.Test.YtfhpfkaeldgcmaaGreatPartHebL
import Derived.Test.YtfhpfkaeldgcmaaGreatPartHebS
import Derived.Test.YtfhpfkaeldgcmaaGreatPartHebX
import Derived.Shelf.Strconv.Atoi
import Derived.Shelf.Strconv.AtoiErr
import Derived.Lib.AppendIntMem
import Derived.Lib.AtoiBound
open Go.Proofs Go.Proofs.Tryz
set_option linter.unusedSimpArgs false
set_option linter.unusedVariables false
set_option maxRecDepth 4000
namespace Go.Ab
abbrev aD.cv(x:aD):List C:=[.d (.i .i64 x.aV),.d (.s x.bW),.d (.s x.fName),.d (.i .i64 x.fN),.d (.i .i64 x.fType.aV),.d (.s x.fType.fName),.d (.sl (x.fType.fArgs.map ay.enc)),.d (.sl (x.fArgs.map aD.enc)),.d (.sl (x.bP.map bE.enc))]
abbrev aD.cl(x:aD)(n:Nat):List C:=[.d (.i .i64 x.aV),.d (.s x.bW),.d (.s x.fName),.d (.i .i64 x.fN),.d (.i .i64 x.fType.aV),.d (.s x.fType.fName),.d (.ol n (lt x.fType.fArgs (n+1))),
 .d (.ol (n+(qD x.fType.fArgs+1)) (lE x.fArgs (n+(qD x.fType.fArgs+1)+1))),.d (.ol (n+(qD x.fType.fArgs+1)+(CF x.fArgs+1)) (lM x.bP (n+(qD x.fType.fArgs+1)+(CF x.fArgs+1)+1)))]
abbrev anN:List C:=[.d (.i .i64 0),.d (.s []),.d (.s []),.d (.i .i64 0),.d (.i .i64 0),.d (.s []),.bM [],.bM [],.bM []]
abbrev gX(l:List au)(i:Nat):au:=l.getD i dh
theorem Sy(l:List au):dH l=(gX l 0).sz+dH (l.drop 1):=by
 cases l with
 |nil=>simp[dH,gX,E5]
 |cons x l=>rw[dH,List.drop_succ_cons,List.drop_zero];rfl
theorem VH(l:List au)(k i:Nat):gX (l.drop k) i=gX l (k+i):=by
 simp[gX,List.getD_eq_getElem?_getD,List.getElem?_drop]
theorem zF(l:List au):dH l=(gX l 0).sz+(gX l 1).sz+(gX l 2).sz+(gX l 3).sz+(gX l 4).sz+(gX l 5).sz+(gX l 6).sz+dH (l.drop 7):=by
 have h:∀k,dH (l.drop k)=(gX l k).sz+dH (l.drop (k+1)):=fun k=>by
  rw[Sy (l.drop k),VH,Nat.add_zero,List.drop_drop]
 have h0:=h 0;rw[List.drop_zero] at h0;have h1:=h 1;have h2:=h 2;have h3:=h 3;have h4:=h 4;have h5:=h 5;have h6:=h 6
 simp only[Nat.reduceAdd] at *
 omega
theorem BL(l:List au):dH l=(gX l 0).sz+(gX l 1).sz+(gX l 2).sz+(gX l 3).sz+dH (l.drop 4):=by
 have h:=zF l;have h1:=zF (l.drop 4)
 have e:∀k,dH (l.drop k)=(gX l k).sz+dH (l.drop (k+1)):=fun k=>by
  rw[Sy (l.drop k),VH,Nat.add_zero,List.drop_drop]
 have h4:=e 4;have h5:=e 5;have h6:=e 6
 simp only[Nat.reduceAdd] at *
 omega
theorem CG(l:List au)(i:Nat):dL l i=(gX l i).bH:=rfl
theorem mV(x:au):x.bH.length+(x.aA.length+dH x.aA)=x.sz:=by rw[iV,jV]
theorem Sz{α:Type}{x:au}{dT dF:α}{valid:α->Bool}{sx:α->au}{head:Prop}(hx:x.aA≠[])(hd:∀a,valid a=true->sx a=x->dT=a/\dF=a)(hh:∀a,sx a=x->head):
 dec (iR x=true/\head/\valid dT=true/\sx dT=x)=(iR x&&dec (um (valid dF) (sx dF)=x)):=by
 cases hv:iR x with
 |false=>exact bJ fun h=>by cases h.1
 |true=>
  rw[Bool.true_and];refine gG ⟨fun⟨_,h2,h3,h4⟩=> ?_,fun h=> ?_⟩
  ·have e:=(hd _ h3 h4).2;rw[e,h3,h4,um,Bv,if_pos hv]
  ·obtain⟨h1,h2,_⟩:=Sl h hx;have e:=(hd _ h1 h2).1;rw[e];exact⟨rfl,hh _ h2,h1,h2⟩
def qQ(b:Bool)(y:au):aS:=if b=true/\y.aA.length≠2 then⟨[],iL⟩ else⟨dL y.aA 0,eP b (gX y.aA 1)⟩
def qR(b:Bool)(y:au):dA:=if b=true/\y.aA.length≠2 then⟨[],iL⟩ else⟨dL y.aA 0,eP b (gX y.aA 1)⟩
def mo(l:List au)(i:Nat):List (List UInt8):=gq (gX l i).aA
def zP(b:Bool)(x:au):bF:=
 ⟨dL x.aA 1,mo x.aA 2,(gX x.aA 3).aA.map (qQ b),(gX x.aA 4).aA.map (qR b),eP b (gX x.aA 5),fA b (gX x.aA 6)⟩
theorem VI(b:Bool){c:aS}(h:formed c.fType=true):qQ b (xA c)=c:=by
 unfold qQ;rw[if_neg (by simp[xA,iw])];show aS.mk c.bW (eP b (dU c.fType))=c;rw[uR b _ h]
theorem abu(b:Bool){c:dA}(h:formed c.fType=true):qR b (vE c)=c:=by
 unfold qR;rw[if_neg (by simp[vE,iw])];show dA.mk c.fName (eP b (dU c.fType))=c;rw[uR b _ h]
theorem BM{α β:Type}{f:α->β}{g:β->α}{l:List α}(h:∀a∈l,g (f a)=a):(l.map f).map g=l:=by
 rw[List.map_map,show l.map (g∘f)=l.map id from List.map_congr_left (fun c hc=>h c hc),List.map_id]
theorem SA{f:bF}(h:l9 f=true):∀v∈f.aU,v≠[]:=by
 unfold l9 at h;simp only[Bool.and_eq_true] at h;exact yD h.2.2.1
theorem Ns(b:Bool){f:bF}(h:l9 f=true):zP b (OB f)=f:=by
 obtain⟨h1,h2,h3,h4⟩:=FL h;show bF.mk f.fName (gq (cZ f.aU)) ((f.dV.map xA).map (qQ b)) ((f.bO.map vE).map (qR b)) (eP b (dU f.dn)) (fA b (fM f.fBody))=f;rw[mQ (SA h),BM fun c hc=>VI b (h1 c hc),BM fun c hc=>abu b (h2 c hc),uR b _ h3,Ea b _ h4]
noncomputable def okF(x:au):Bool:=dec (iR x=true/\(7<=x.aA.length/\dL x.aA 0=GX)/\l9 (zP true x)=true/\OB (zP true x)=x)
theorem aeW{x:au}(hx:x.aA≠[]):okF x=(iR x&&dec (R5 (zP false x)=x)):=
 Sz hx (fun a h1 h2=>by rw[<-h2];exact⟨Ns true h1,Ns false h1⟩) fun a h=>by rw[<-h];exact⟨Nat.le_refl _,rfl⟩
theorem aeX{x:au}(h:okF x=true):zP false x=zP true x:=by
 have h1:=gD h
 conv=>lhs;rw[<-h1.2.2.2]
 exact Ns false h1.2.2.1
def Me:bF:=⟨[],[],[],[],iL,mU⟩
noncomputable def Hg(x:au):bF:=if okF x=true then zP true x else Me
theorem ahy(b:Bool)(y:au):(qQ b y).sz<=y.sz:=by
 have h:=wG b (gX y.aA 1);have h1:=BL y.aA;have h2:=mV y;have h3:=mV (gX y.aA 0);unfold qQ;split
 ·simp only[aS.sz,aS.aj,bG,bC,D.sz,ay.cK,zC];simp
 ·simp only[aS.sz,aS.aj,bG,bC,D.sz,ay.cK,CG];omega
theorem abv(b:Bool)(y:au):(qR b y).sz<=y.sz:=by
 have h:=wG b (gX y.aA 1);have h1:=BL y.aA;have h2:=mV y;have h3:=mV (gX y.aA 0);unfold qR;split
 ·simp only[dA.sz,dA.aj,bG,bC,D.sz,ay.cK,zC];simp
 ·simp only[dA.sz,dA.aj,bG,bC,D.sz,ay.cK,CG];omega
theorem Kh(b:Bool):∀l:List au,aQ ((l.map (qQ b)).map aS.enc)<=dH l
 |[]=>by simp[aQ]
 |y::l=>by
  have h1:=ahy b y;have h2:=Kh b l;rw[List.map_cons,List.map_cons,aQ,dH];simp only[aS.sz] at h1;omega
theorem Mf(b:Bool):∀l:List au,aQ ((l.map (qR b)).map dA.enc)<=dH l
 |[]=>by simp[aQ]
 |y::l=>by
  have h1:=abv b y;have h2:=Mf b l;rw[List.map_cons,List.map_cons,aQ,dH];simp only[dA.sz] at h1;omega
theorem VJ(b:Bool)(x:au):(zP b x).sz<=x.sz:=by
 have h1:=zF x.aA;have h2:=mV x;have h3:=mV (gX x.aA 1);have h4:=oo (gX x.aA 2).aA;have h4':=mV (gX x.aA 2);have h5:=Kh b (gX x.aA 3).aA;have h5':=mV (gX x.aA 3);have h6:=Mf b (gX x.aA 4).aA;have h6':=mV (gX x.aA 4);have h7:=wG b (gX x.aA 5);have h8:=AO b (gX x.aA 6);simp only[bF.sz,bF.aj,bG,bC,D.sz,ay.cK,aD.cK,zP,List.length_map,mo,eu,CG];omega
theorem abw{l:List au}{i:Nat}(h:i<l.length):gX l i=l[i]:=by
 show l.getD i dh=_;rw[List.getD_eq_getElem?_getD,List.getElem?_eq_getElem h];rfl
def lB(l:List aS)(n:Nat):List (List D):=ig (l.map aS.enc) n
def lPr(l:List dA)(n:Nat):List (List D):=ig (l.map dA.enc) n
theorem Ar{α:Type}{e:α->List D}{l:List α}{i:Nat}(hi:i<l.length):(l.take i).map e++[e l[i]]=(l.take (i+1)).map e:=by
 rw[List.take_succ_eq_append_getElem hi,List.map_append];rfl
theorem ahz{b:Bool}{y:au}(h:b=false\/y.aA.length=2):(qQ b y).bW=dL y.aA 0/\(qQ b y).fType=eP b (y.aA.getD 1 dh):=by
 unfold qQ;rw[if_neg (by rintro⟨e1,e2⟩;rcases h with e|e;(rw[e] at e1;cases e1);exact e2 e)];exact⟨rfl,rfl⟩
theorem abx{b:Bool}{y:au}(h:b=false\/y.aA.length=2):(qR b y).fName=dL y.aA 0/\(qR b y).fType=eP b (y.aA.getD 1 dh):=by
 unfold qR;rw[if_neg (by rintro⟨e1,e2⟩;rcases h with e|e;(rw[e] at e1;cases e1);exact e2 e)];exact⟨rfl,rfl⟩
theorem alf(x:au){i:Nat}(hi:i<x.aA.length):x.aA[i].sz<=x.sz:=by
 have:=kQ (List.getElem_mem hi);have:=gM x;omega
abbrev bF.cl(x:bF)(n p q r:Nat):List C:=[.d (.s x.fName),.d (.ol n (x.aU.map encS)),.d (.ol (n+1) (lB x.dV (n+1+1))),.d (.ol p (lPr x.bO (p+1))),.d (.i .i64 x.dn.aV),.d (.s x.dn.fName),.d (.ol q (lt x.dn.fArgs (q+1))),
 .d (.i .i64 x.fBody.aV),.d (.s x.fBody.bW),.d (.s x.fBody.fName),.d (.i .i64 x.fBody.fN),.d (.i .i64 x.fBody.fType.aV),.d (.s x.fBody.fType.fName),.d (.ol r (lt x.fBody.fType.fArgs (r+1))),
 .d (.ol (r+(qD x.fBody.fType.fArgs+1)) (lE x.fBody.fArgs (r+(qD x.fBody.fType.fArgs+1)+1))),.d (.ol (r+(qD x.fBody.fType.fArgs+1)+(CF x.fBody.fArgs+1)) (lM x.fBody.bP (r+(qD x.fBody.fType.fArgs+1)+(CF x.fBody.fArgs+1)+1)))]
abbrev bF.cv(x:bF):List C:=[.d (.s x.fName),.d (.sl (x.aU.map encS)),.d (.sl (x.dV.map aS.enc)),.d (.sl (x.bO.map dA.enc)),.d (.i .i64 x.dn.aV),.d (.s x.dn.fName),.d (.sl (x.dn.fArgs.map ay.enc)),
 .d (.i .i64 x.fBody.aV),.d (.s x.fBody.bW),.d (.s x.fBody.fName),.d (.i .i64 x.fBody.fN),.d (.i .i64 x.fBody.fType.aV),.d (.s x.fBody.fType.fName),.d (.sl (x.fBody.fType.fArgs.map ay.enc)),.d (.sl (x.fBody.fArgs.map aD.enc)),.d (.sl (x.fBody.bP.map bE.enc))]
theorem ajl{x:au}(h:okF x=false):Hg x=Me:=if_neg (by rw[h];decide)
theorem ahA{x:au}(h:okF x=true):Hg x=zP true x:=if_pos h
abbrev SB:List C:=[.d (.s []),.bM [],.bM [],.bM [],.d (.i .i64 0),.d (.s []),.bM [],.d (.i .i64 0),.d (.s []),.d (.s []),.d (.i .i64 0),.d (.i .i64 0),.d (.s []),.bM [],.bM [],.bM []]
theorem am1(e:bF)(h:e=Me)(ok:Bool):Less (.eD [(true,SB),(false,[.d (.b ok)])]) (.eD [(true,e.cv),(false,[.d (.b ok)])]):=by
 rw[h];exact(jP.cons (.cons (.refl _) (.cons (eO _) (.cons (eO _) (.cons (eO _) (.cons (.refl _) (.cons (.refl _) (.cons (eO _) (.cons (.refl _) (.cons (.refl _) (.cons (.refl _) (.cons (.refl _) (.cons (.refl _) (.cons (.refl _) (.cons (eO _) (.cons (eO _) (.cons (eO _) .nil)))))))))))))))) (.refl _)).less
theorem FR(x:au)(hsz:x.sz<=4194304):aX prog 256 [x.v] (.c (.d (.sl ((x.aA.map (qQ false)).map aS.enc)))):=fun S=>by
 have h1:=gM x
 have hall:∀t∈x.aA,t.sz<=4194304:=fun t ht=>by have:=kQ ht;omega
 have YI:=fun(i:Nat) (hi:i<x.aA.length)=>Ar (e:=aS.enc) (l:=x.aA.map (qQ false)) (i:=i) (by rw[List.length_map];exact hi);refine zcx [.tmp 2] func256 ntmps256 ?_;simp -implicitDefEqProofs (disch:=omega) only[go_sem]
 (repeat(with_reducible refine And.intro ?_ ?_;focus first|omega|rfl|assumption|exact⟨_,rfl,rfl⟩|(simp;omega)|(simp;done)))
 refine kN 3 4 [] rfl (by simp) ?_
 refine bN (ι:=Nat) zmx rfl [1,3,4] (fun i=>[.c (.ptr (0,0) 0),.c (.bV (0,1) (((x.aA.map (qQ false)).take i).map aS.enc)),.c (.d (.i .i64 i))]) (fun i=>[.box [.d (.s x.bH),.d (.sl (x.aA.map au.enc))],.tok 4 (((x.aA.map (qQ false)).take i).map aS.enc)]::S)
  (fun i=>i<=x.aA.length) (fun i=>x.aA.length-i) 0 rfl rfl (Nat.zero_le _) ?_
 intro i hi
 have hl:(((x.aA.map (qQ false)).take i).map aS.enc).length<=i:=by rw[List.length_map];exact List.length_take_le _ _
 simp -implicitDefEqProofs (disch:=omega) only[go_sem]
 with_reducible refine aC (fun hb=> ?_) (fun hb=> ?_)<;>have h:=hb<;>(try simp only[wf_preprocess] at h)<;>simp -implicitDefEqProofs (disch:=omega) only[go_sem,hb]<;>(repeat(with_reducible refine And.intro ?_ ?_;focus first|omega|rfl|assumption|exact⟨_,rfl,rfl⟩|(simp;omega)|(simp;done)))
 ·have hi':i<x.aA.length:=by omega
  have hz:=hall _ (List.getElem_mem hi');have hs:=YI i hi';have hb:=ahz (b:=false) (y:=x.aA[i]) (.inl rfl);rw[List.getElem_map] at hs;simp only[aS.aj,ay.aj,List.cons_append,List.nil_append,hb.1,hb.2] at hs
  (repeat(with_reducible refine And.intro ?_ ?_;focus first|omega|rfl|assumption|exact⟨_,rfl,rfl⟩|(simp;omega)|(simp;done)))
  refine aB (eT x.aA[i] 0 hz (by omega)) ?_;simp -implicitDefEqProofs (disch:=omega) only[go_sem]
  (repeat(with_reducible refine And.intro ?_ ?_;focus first|omega|rfl|assumption|exact⟨_,rfl,rfl⟩|(simp;omega)|(simp;done)))
  refine aB (eT x.aA[i] 1 hz (by omega)) ?_;simp -implicitDefEqProofs (disch:=omega) only[go_sem];refine aB (mR (x.aA[i].aA.getD 1 dh) (uH _ 1 hz)) ?_;simp -implicitDefEqProofs (disch:=omega) only[go_sem]
  (repeat(with_reducible refine And.intro ?_ ?_;focus first|omega|rfl|assumption|exact⟨_,rfl,rfl⟩|(simp;omega)|(simp;done)))
  show _;rw[show(x.aA[i].aA.getD 0 dh).bH=dL x.aA[i].aA 0 from rfl,hs];exact bT (i+1) (by omega) rfl rfl (by omega)
 ·have hi':i=(x.aA.map (qQ false)).length:=by rw[List.length_map];omega
  rw[hi',List.take_length]
theorem SC(x:au)(hsz:x.sz<=1048576):aX prog 243 [x.v] (.eD [(true,(Hg x).cv),(false,[.d (.b (okF x))])]):=aX.of_le fun S=>by
 have h1:=gM x;have hds:=VJ false x;have hos:=ahc (f:=zP false x) (by omega);have hgs:=fun i=>uH x i (m:=4194304) (by omega);obtain⟨l,hl⟩:∃l,l=(x.aA.getD 4 dh).aA:=⟨_,rfl⟩;have hg4:=gM (x.aA.getD 4 dh)
 have hll:l.length<=4194304:=by have:=hgs 4;rw[hl];omega
 have hlm:∀y∈l,y.sz<=4194304:=fun y hy=>by
  have:=hgs 4;have:=kQ (hl▸hy);omega
 obtain⟨F,hF⟩:∃F,F=zP false x:=⟨_,rfl⟩
 have f1:F.fName=(x.aA.getD 1 dh).bH:=by rw[hF];rfl
 have f2:F.aU=gq (x.aA.getD 2 dh).aA:=by rw[hF];rfl
 have f3:F.dV=(x.aA.getD 3 dh).aA.map (qQ false):=by rw[hF];rfl
 have f5:F.dn=eP false (x.aA.getD 5 dh):=by rw[hF];rfl
 have f6:F.fBody=fA false (x.aA.getD 6 dh):=by rw[hF];rfl
 obtain⟨T,hT⟩:∃T:Nat->List (List D),T=fun i=>((l.map (qR false)).take i).map dA.enc:=⟨_,rfl⟩
 have hT0:T 0=[]:=by rw[hT];rfl
 have jY:∀i,(T i).length<=i:=fun i=>by rw[hT];simp only[List.length_map];exact List.length_take_le _ _
 have hTs:∀i (hi:i<l.length),T i++[(qR false l[i]).enc]=T (i+1):=fun i hi=>by
  have:=Ar (e:=dA.enc) (l:=l.map (qR false)) (i:=i) (by rw[List.length_map];exact hi);rw[List.getElem_map] at this;rw[hT];exact this
 have hTe:T l.length=F.bO.map dA.enc:=by
  rw[hT];simp only
  rw[List.take_of_length_le (by simp),hF,hl];rfl
 clear hT
 have jB:okF x=false->Less (.eD [(true,SB),(false,[.d (.b false)])]) (.eD [(true,(Hg x).cv),(false,[.d (.b (okF x))])]):=fun e=>by
  rw[e];exact am1 _ (ajl e) false
 have c5:=mR (x.aA.getD 5 dh) (hgs 5);have c6:=Dj (x.aA.getD 6 dh) (hgs 6);have c2:=oN _ (hgs 2);have c3:=FR _ (hgs 3);rw[<-f2] at c2;rw[<-f3] at c3;rw[<-f5] at c5;rw[<-f6] at c6;refine zcx [.cell 2 117,.tmp 3] func243 ntmps243 ?_;simp -implicitDefEqProofs (disch:=omega) only[go_sem];refine aB (eT x 1 (by omega) (by omega)) ?_;simp -implicitDefEqProofs (disch:=omega) only[go_sem];refine aB (eT x 2 (by omega) (by omega)) ?_;simp -implicitDefEqProofs (disch:=omega) only[go_sem];refine aB c2 ?_;simp -implicitDefEqProofs (disch:=omega) only[go_sem];refine aB (eT x 3 (by omega) (by omega)) ?_;simp -implicitDefEqProofs (disch:=omega) only[go_sem];refine aB c3 ?_;simp -implicitDefEqProofs (disch:=omega) only[go_sem];refine aB (eT x 5 (by omega) (by omega)) ?_;simp -implicitDefEqProofs (disch:=omega) only[go_sem];refine aB c5 ?_;simp -implicitDefEqProofs (disch:=omega) only[go_sem];refine aB (eT x 6 (by omega) (by omega)) ?_;simp -implicitDefEqProofs (disch:=omega) only[go_sem];refine aB c6 ?_;simp -implicitDefEqProofs (disch:=omega) only[go_sem]
 (repeat(with_reducible refine And.intro ?_ ?_;focus first|omega|rfl|assumption|exact⟨_,rfl,rfl⟩|(simp;omega)|(simp;done)))
 refine aB (eT x 4 (by omega) (by omega)) ?_;simp -implicitDefEqProofs (disch:=omega) only[go_sem];rw[<-hl,<-f1];refine jr 2 3 4 _ rfl rfl ?_
 refine bN (ι:=Nat) zmx rfl [1,2,4,5,6] (fun i=>[.c (.ptr (0,0) 0),.c (.ptr (0,1) 0),.c (.ptr (0,2) 0),.c (.ptr (0,3) 0),.c (.d (.i .i64 i))])
  (fun i=>[.box [.d (.s x.bH),.d (.sl (x.aA.map au.enc))],.box SB,.box [.d (.s F.fName),.d (.sl (F.aU.map encS)),.d (.sl (F.dV.map aS.enc)),.bV (0,4) (T i),.d (.i .i64 F.dn.aV),.d (.s F.dn.fName),.d (.sl (F.dn.fArgs.map ay.enc)),
    .d (.i .i64 F.fBody.aV),.d (.s F.fBody.bW),.d (.s F.fBody.fName),.d (.i .i64 F.fBody.fN),.d (.i .i64 F.fBody.fType.aV),.d (.s F.fBody.fType.fName),.d (.sl (F.fBody.fType.fArgs.map ay.enc)),.d (.sl (F.fBody.fArgs.map aD.enc)),.d (.sl (F.fBody.bP.map bE.enc))],
    .box [.d (.s (x.aA.getD 4 dh).bH),.d (.sl (l.map au.enc))],.tok 4 (T i)]::S)
  (fun i=>i<=l.length) (fun i=>l.length-i) 0 rfl (by rw[hT0];rfl) (Nat.zero_le _) ?_
 intro i hi;have hl':=jY i;simp -implicitDefEqProofs (disch:=omega) only[go_sem]
 with_reducible refine aC (fun hb=> ?_) (fun hb=> ?_)<;>have h:=hb<;>(try simp only[wf_preprocess] at h)<;>simp -implicitDefEqProofs (disch:=omega) only[go_sem,hb]<;>(repeat(with_reducible refine And.intro ?_ ?_;focus first|omega|rfl|assumption|exact⟨_,rfl,rfl⟩|(simp;omega)|(simp;done)))
 ·have hi':i<l.length:=by omega
  have hz:=hlm _ (List.getElem_mem hi');have hs:=hTs i hi';have hb:=abx (b:=false) (y:=l[i]) (.inl rfl);simp only[dA.aj,ay.aj,List.cons_append,List.nil_append,hb.1,hb.2] at hs
  (repeat(with_reducible refine And.intro ?_ ?_;focus first|omega|rfl|assumption|exact⟨_,rfl,rfl⟩|(simp;omega)|(simp;done)))
  refine aB (eT l[i] 0 hz (by omega)) ?_;simp -implicitDefEqProofs (disch:=omega) only[go_sem]
  (repeat(with_reducible refine And.intro ?_ ?_;focus first|omega|rfl|assumption|exact⟨_,rfl,rfl⟩|(simp;omega)|(simp;done)))
  refine aB (eT l[i] 1 hz (by omega)) ?_;simp -implicitDefEqProofs (disch:=omega) only[go_sem];refine aB (mR (l[i].aA.getD 1 dh) (uH _ 1 hz)) ?_;simp -implicitDefEqProofs (disch:=omega) only[go_sem]
  (repeat(with_reducible refine And.intro ?_ ?_;focus first|omega|rfl|assumption|exact⟨_,rfl,rfl⟩|(simp;omega)|(simp;done)))
  rw[show(l[i].aA.getD 0 dh).bH=dL l[i].aA 0 from rfl,hs];exact fu 5 (by decide) (i+1) (by omega) rfl rfl rfl rfl (by omega)
 ·have hi':i=l.length:=by omega
  subst hi';rw[hTe];clear hTs;refine aB (lS x (by omega)) ?_;simp -implicitDefEqProofs (disch:=omega) only[go_sem]
  with_reducible refine aC (fun hb=> ?_) (fun hb=> ?_)<;>have h:=hb<;>(try simp only[wf_preprocess] at h)<;>simp -implicitDefEqProofs (disch:=omega) only[go_sem,hb]<;>(repeat(with_reducible refine And.intro ?_ ?_;focus first|omega|rfl|assumption|exact⟨_,rfl,rfl⟩|(simp;omega)|(simp;done)))
  ·exact jB (bJ fun e=>by rw[e.1] at h;cases h)
  have hv:=h
  with_reducible refine aC (fun hb=> ?_) (fun hb=> ?_)<;>have h:=hb<;>(try simp only[wf_preprocess] at h)<;>simp -implicitDefEqProofs (disch:=omega) only[go_sem,hb]<;>(repeat(with_reducible refine And.intro ?_ ?_;focus first|omega|rfl|assumption|exact⟨_,rfl,rfl⟩|(simp;omega)|(simp;done)))
  ·exact jB (bJ fun e=>by omega)
  have hne:x.aA≠[]:=fun e=>by rw[e] at h;exact h rfl
  have hok:=aeW hne;rw[hv,Bool.true_and] at hok;rw[<-hF] at hok hos hds
  (repeat(with_reducible refine And.intro ?_ ?_;focus first|omega|rfl|assumption|exact⟨_,rfl,rfl⟩|(simp;omega)|(simp;done)))
  refine aB (aa8 F (by omega)) ?_;simp -implicitDefEqProofs (disch:=omega) only[go_sem];refine aB (qC (R5 F) x (by omega)) ?_;simp -implicitDefEqProofs (disch:=omega) only[go_sem]
  with_reducible refine aC (fun hb=> ?_) (fun hb=> ?_)<;>have h:=hb<;>(try simp only[wf_preprocess] at h)<;>simp -implicitDefEqProofs (disch:=omega) only[go_sem,hb]<;>(repeat(with_reducible refine And.intro ?_ ?_;focus first|omega|rfl|assumption|exact⟨_,rfl,rfl⟩|(simp;omega)|(simp;done)))
  ·exact jB (by rw[hok];exact bJ h)
  ·have hy:okF x=true:=by rw[hok];exact dD h
   rw[ahA hy,hy,<-aeX hy,<-hF];exact jv _
end Go.Ab