/-
  SEVERAL TEXTS IN ONE (merged by program): contracts and models, each with its own heading.
-/
import Derived.Test.YtfhpfkaeldgcmaaGreatPartHfbL
import Derived.Test.YtfhpfkaeldgcmaaGreatPartHfbS
import Derived.Test.YtfhpfkaeldgcmaaGreatPartHfbX
import Derived.Shelf.Strconv.Atoi
import Derived.Shelf.Strconv.AtoiErr
import Derived.Lib.AppendIntMem
import Derived.Lib.AtoiBound
open Go.Proofs Go.Proofs.Tryz
set_option linter.unusedSimpArgs false
set_option linter.unusedVariables false
set_option maxRecDepth 4000
namespace Go.Ab
abbrev aC.cv(x:aC):List C:=[.d (.i .i64 x.aV),.d (.s x.bU),.d (.s x.fName),.d (.i .i64 x.fN),.d (.i .i64 x.fType.aV),.d (.s x.fType.fName),.d (.sl (x.fType.fArgs.map ay.enc)),.d (.sl (x.fArgs.map aC.enc)),.d (.sl (x.bH.map bn.enc))]
abbrev aC.cl(x:aC)(n:Nat):List C:=[.d (.i .i64 x.aV),.d (.s x.bU),.d (.s x.fName),.d (.i .i64 x.fN),.d (.i .i64 x.fType.aV),.d (.s x.fType.fName),.d (.ol n (lt x.fType.fArgs (n+1))),
 .d (.ol (n+(qB x.fType.fArgs+1)) (lE x.fArgs (n+(qB x.fType.fArgs+1)+1))),.d (.ol (n+(qB x.fType.fArgs+1)+(Cm x.fArgs+1)) (lM x.bH (n+(qB x.fType.fArgs+1)+(Cm x.fArgs+1)+1)))]
abbrev anw:List C:=[.d (.i .i64 0),.d (.s []),.d (.s []),.d (.i .i64 0),.d (.i .i64 0),.d (.s []),.bI [],.bI [],.bI []]
abbrev gX(l:List au)(i:Nat):au:=l.getD i dz
theorem Sk(l:List au):dK l=(gX l 0).sz+dK (l.drop 1):=by
 cases l with
 |nil=>simp[dK,gX,EL]
 |cons x l=>rw[dK,List.drop_succ_cons,List.drop_zero];rfl
theorem Vq(l:List au)(k i:Nat):gX (l.drop k) i=gX l (k+i):=by
 simp[gX,List.getD_eq_getElem?_getD,List.getElem?_drop]
theorem zn(l:List au):dK l=(gX l 0).sz+(gX l 1).sz+(gX l 2).sz+(gX l 3).sz+(gX l 4).sz+(gX l 5).sz+(gX l 6).sz+dK (l.drop 7):=by
 have h:∀k,dK (l.drop k)=(gX l k).sz+dK (l.drop (k+1)):=fun k=>by
  rw[Sk (l.drop k),Vq,Nat.add_zero,List.drop_drop]
 have h0:=h 0;rw[List.drop_zero] at h0;have h1:=h 1;have h2:=h 2;have h3:=h 3;have h4:=h 4;have h5:=h 5;have h6:=h 6
 simp only[Nat.reduceAdd] at *
 omega
theorem Bz(l:List au):dK l=(gX l 0).sz+(gX l 1).sz+(gX l 2).sz+(gX l 3).sz+dK (l.drop 4):=by
 have h:=zn l;have h1:=zn (l.drop 4)
 have e:∀k,dK (l.drop k)=(gX l k).sz+dK (l.drop (k+1)):=fun k=>by
  rw[Sk (l.drop k),Vq,Nat.add_zero,List.drop_drop]
 have h4:=e 4;have h5:=e 5;have h6:=e 6
 simp only[Nat.reduceAdd] at *
 omega
theorem Cn(l:List au)(i:Nat):dM l i=(gX l i).bK:=rfl
theorem nk(x:au):x.bK.length+(x.aA.length+dK x.aA)=x.sz:=by rw[iX,kg]
theorem Sl{α:Type}{x:au}{dT dF:α}{valid:α->Bool}{sx:α->au}{head:Prop}(hx:x.aA≠[])(hd:∀a,valid a=true->sx a=x->dT=a/\dF=a)(hh:∀a,sx a=x->head):
 dec (iU x=true/\head/\valid dT=true/\sx dT=x)=(iU x&&dec (uw (valid dF) (sx dF)=x)):=by
 cases hv:iU x with
 |false=>exact bM fun h=>by cases h.1
 |true=>
  rw[Bool.true_and];refine kX ⟨fun⟨_,h2,h3,h4⟩=> ?_,fun h=> ?_⟩
  ·have e:=(hd _ h3 h4).2;rw[e,h3,h4,uw,Bg,if_pos hv]
  ·obtain⟨h1,h2,_⟩:=R9 h hx;have e:=(hd _ h1 h2).1;rw[e];exact⟨rfl,hh _ h2,h1,h2⟩
def qP(b:Bool)(y:au):aU:=if b=true/\y.aA.length≠2 then⟨[],iN⟩ else⟨dM y.aA 0,eT b (gX y.aA 1)⟩
def qQ(b:Bool)(y:au):dG:=if b=true/\y.aA.length≠2 then⟨[],iN⟩ else⟨dM y.aA 0,eT b (gX y.aA 1)⟩
def mF(l:List au)(i:Nat):List (List UInt8):=gy (gX l i).aA
def zF(b:Bool)(x:au):bJ:=
 ⟨dM x.aA 1,mF x.aA 2,(gX x.aA 3).aA.map (qP b),(gX x.aA 4).aA.map (qQ b),eT b (gX x.aA 5),fA b (gX x.aA 6)⟩
theorem Vr(b:Bool){c:aU}(h:formed c.fType=true):qP b (w9 c)=c:=by
 unfold qP;rw[if_neg (by simp[w9,iy])];show aU.mk c.bU (eT b (dR c.fType))=c;rw[uS b _ h]
theorem aa5(b:Bool){c:dG}(h:formed c.fType=true):qQ b (vD c)=c:=by
 unfold qQ;rw[if_neg (by simp[vD,iy])];show dG.mk c.fName (eT b (dR c.fType))=c;rw[uS b _ h]
theorem BA{α β:Type}{f:α->β}{g:β->α}{l:List α}(h:∀a∈l,g (f a)=a):(l.map f).map g=l:=by
 rw[List.map_map,show l.map (g∘f)=l.map id from List.map_congr_left (fun c hc=>h c hc),List.map_id]
theorem Sm{f:bJ}(h:mD f=true):∀v∈f.aS,v≠[]:=by
 unfold mD at h;simp only[Bool.and_eq_true] at h;exact yA h.2.2.1
theorem Nk(b:Bool){f:bJ}(h:mD f=true):zF b (Oq f)=f:=by
 obtain⟨h1,h2,h3,h4⟩:=Fp h;show bJ.mk f.fName (gy (dn f.aS)) ((f.dS.map w9).map (qP b)) ((f.bP.map vD).map (qQ b)) (eT b (dR f.cu)) (fA b (fQ f.fBody))=f;rw[mZ (Sm h),BA fun c hc=>Vr b (h1 c hc),BA fun c hc=>aa5 b (h2 c hc),uS b _ h3,DT b _ h4]
noncomputable def okF(x:au):Bool:=dec (iU x=true/\(7<=x.aA.length/\dM x.aA 0=Gx)/\mD (zF true x)=true/\Oq (zF true x)=x)
theorem aex{x:au}(hx:x.aA≠[]):okF x=(iU x&&dec (RQ (zF false x)=x)):=
 Sl hx (fun a h1 h2=>by rw[<-h2];exact⟨Nk true h1,Nk false h1⟩) fun a h=>by rw[<-h];exact⟨Nat.le_refl _,rfl⟩
theorem aey{x:au}(h:okF x=true):zF false x=zF true x:=by
 have h1:=gP h
 conv=>lhs;rw[<-h1.2.2.2]
 exact Nk false h1.2.2.1
def LM:bJ:=⟨[],[],[],[],iN,ni⟩
noncomputable def GN(x:au):bJ:=if okF x=true then zF true x else LM
theorem aha(b:Bool)(y:au):(qP b y).sz<=y.sz:=by
 have h:=wC b (gX y.aA 1);have h1:=Bz y.aA;have h2:=nk y;have h3:=nk (gX y.aA 0);unfold qP;split
 ·simp only[aU.sz,aU.aj,bD,aY,D.sz,ay.bY,zl];simp
 ·simp only[aU.sz,aU.aj,bD,aY,D.sz,ay.bY,Cn];omega
theorem aa6(b:Bool)(y:au):(qQ b y).sz<=y.sz:=by
 have h:=wC b (gX y.aA 1);have h1:=Bz y.aA;have h2:=nk y;have h3:=nk (gX y.aA 0);unfold qQ;split
 ·simp only[dG.sz,dG.aj,bD,aY,D.sz,ay.bY,zl];simp
 ·simp only[dG.sz,dG.aj,bD,aY,D.sz,ay.bY,Cn];omega
theorem JW(b:Bool):∀l:List au,aN ((l.map (qP b)).map aU.enc)<=dK l
 |[]=>by simp[aN]
 |y::l=>by
  have h1:=aha b y;have h2:=JW b l;rw[List.map_cons,List.map_cons,aN,dK];simp only[aU.sz] at h1;omega
theorem LP(b:Bool):∀l:List au,aN ((l.map (qQ b)).map dG.enc)<=dK l
 |[]=>by simp[aN]
 |y::l=>by
  have h1:=aa6 b y;have h2:=LP b l;rw[List.map_cons,List.map_cons,aN,dK];simp only[dG.sz] at h1;omega
theorem Vs(b:Bool)(x:au):(zF b x).sz<=x.sz:=by
 have h1:=zn x.aA;have h2:=nk x;have h3:=nk (gX x.aA 1);have h4:=nW (gX x.aA 2).aA;have h4':=nk (gX x.aA 2);have h5:=JW b (gX x.aA 3).aA;have h5':=nk (gX x.aA 3);have h6:=LP b (gX x.aA 4).aA;have h6':=nk (gX x.aA 4);have h7:=wC b (gX x.aA 5);have h8:=Ap b (gX x.aA 6);simp only[bJ.sz,bJ.aj,bD,aY,D.sz,ay.bY,aC.bY,zF,List.length_map,mF,eB,Cn];omega
theorem aa7{l:List au}{i:Nat}(h:i<l.length):gX l i=l[i]:=by
 show l.getD i dz=_;rw[List.getD_eq_getElem?_getD,List.getElem?_eq_getElem h];rfl
def lB(l:List aU)(n:Nat):List (List D):=eU (l.map aU.enc) n
def lPr(l:List dG)(n:Nat):List (List D):=eU (l.map dG.enc) n
theorem Ag{α:Type}{e:α->List D}{l:List α}{i:Nat}(hi:i<l.length):(l.take i).map e++[e l[i]]=(l.take (i+1)).map e:=by
 rw[List.take_succ_eq_append_getElem hi,List.map_append];rfl
theorem ahb{b:Bool}{y:au}(h:b=false\/y.aA.length=2):(qP b y).bU=dM y.aA 0/\(qP b y).fType=eT b (y.aA.getD 1 dz):=by
 unfold qP;rw[if_neg (by rintro⟨e1,e2⟩;rcases h with e|e;(rw[e] at e1;cases e1);exact e2 e)];exact⟨rfl,rfl⟩
theorem aa8{b:Bool}{y:au}(h:b=false\/y.aA.length=2):(qQ b y).fName=dM y.aA 0/\(qQ b y).fType=eT b (y.aA.getD 1 dz):=by
 unfold qQ;rw[if_neg (by rintro⟨e1,e2⟩;rcases h with e|e;(rw[e] at e1;cases e1);exact e2 e)];exact⟨rfl,rfl⟩
theorem akV(x:au){i:Nat}(hi:i<x.aA.length):x.aA[i].sz<=x.sz:=by
 have:=kY (List.getElem_mem hi);have:=gV x;omega
abbrev bJ.cl(x:bJ)(n p q r:Nat):List C:=[.d (.s x.fName),.d (.ol n (x.aS.map encS)),.d (.ol (n+1) (lB x.dS (n+1+1))),.d (.ol p (lPr x.bP (p+1))),.d (.i .i64 x.cu.aV),.d (.s x.cu.fName),.d (.ol q (lt x.cu.fArgs (q+1))),
 .d (.i .i64 x.fBody.aV),.d (.s x.fBody.bU),.d (.s x.fBody.fName),.d (.i .i64 x.fBody.fN),.d (.i .i64 x.fBody.fType.aV),.d (.s x.fBody.fType.fName),.d (.ol r (lt x.fBody.fType.fArgs (r+1))),
 .d (.ol (r+(qB x.fBody.fType.fArgs+1)) (lE x.fBody.fArgs (r+(qB x.fBody.fType.fArgs+1)+1))),.d (.ol (r+(qB x.fBody.fType.fArgs+1)+(Cm x.fBody.fArgs+1)) (lM x.fBody.bH (r+(qB x.fBody.fType.fArgs+1)+(Cm x.fBody.fArgs+1)+1)))]
abbrev bJ.cv(x:bJ):List C:=[.d (.s x.fName),.d (.sl (x.aS.map encS)),.d (.sl (x.dS.map aU.enc)),.d (.sl (x.bP.map dG.enc)),.d (.i .i64 x.cu.aV),.d (.s x.cu.fName),.d (.sl (x.cu.fArgs.map ay.enc)),
 .d (.i .i64 x.fBody.aV),.d (.s x.fBody.bU),.d (.s x.fBody.fName),.d (.i .i64 x.fBody.fN),.d (.i .i64 x.fBody.fType.aV),.d (.s x.fBody.fType.fName),.d (.sl (x.fBody.fType.fArgs.map ay.enc)),.d (.sl (x.fBody.fArgs.map aC.enc)),.d (.sl (x.fBody.bH.map bn.enc))]
theorem aiY{x:au}(h:okF x=false):GN x=LM:=if_neg (by rw[h];decide)
theorem ahc{x:au}(h:okF x=true):GN x=zF true x:=if_pos h
abbrev Sn:List C:=[.d (.s []),.bI [],.bI [],.bI [],.d (.i .i64 0),.d (.s []),.bI [],.d (.i .i64 0),.d (.s []),.d (.s []),.d (.i .i64 0),.d (.i .i64 0),.d (.s []),.bI [],.bI [],.bI []]
theorem amM(e:bJ)(h:e=LM)(ok:Bool):Less (.eu [(true,Sn),(false,[.d (.b ok)])]) (.eu [(true,e.cv),(false,[.d (.b ok)])]):=by
 rw[h];exact(jZ.cons (.cons (.refl _) (.cons (eO _) (.cons (eO _) (.cons (eO _) (.cons (.refl _) (.cons (.refl _) (.cons (eO _) (.cons (.refl _) (.cons (.refl _) (.cons (.refl _) (.cons (.refl _) (.cons (.refl _) (.cons (.refl _) (.cons (eO _) (.cons (eO _) (.cons (eO _) .nil)))))))))))))))) (.refl _)).less
theorem Fx(x:au)(hsz:x.sz<=4194304):bg prog 256 [x.v] (.c (.d (.sl ((x.aA.map (qP false)).map aU.enc)))):=fun S=>by
 have h1:=gV x
 have hall:∀t∈x.aA,t.sz<=4194304:=fun t ht=>by have:=kY ht;omega
 have Yu:=fun(i:Nat) (hi:i<x.aA.length)=>Ag (e:=aU.enc) (l:=x.aA.map (qP false)) (i:=i) (by rw[List.length_map];exact hi);refine zcx [.tmp 2] func256 ntmps256 ?_;simp -implicitDefEqProofs (disch:=omega) only[go_sem]
 (repeat(with_reducible refine And.intro ?_ ?_;focus first|omega|rfl|assumption|exact⟨_,rfl,rfl⟩|(simp;omega)|(simp;done)))
 refine iZ 3 4 [] rfl (by simp) ?_
 refine bO (ι:=Nat) zmx rfl [1,3,4] (fun i=>[.c (.ptr (0,0) 0),.c (.bS (0,1) (((x.aA.map (qP false)).take i).map aU.enc)),.c (.d (.i .i64 i))]) (fun i=>[.box [.d (.s x.bK),.d (.sl (x.aA.map au.enc))],.tok 4 (((x.aA.map (qP false)).take i).map aU.enc)]::S)
  (fun i=>i<=x.aA.length) (fun i=>x.aA.length-i) 0 rfl rfl (Nat.zero_le _) ?_
 intro i hi
 have hl:(((x.aA.map (qP false)).take i).map aU.enc).length<=i:=by rw[List.length_map];exact List.length_take_le _ _
 simp -implicitDefEqProofs (disch:=omega) only[go_sem]
 with_reducible refine aD (fun hb=> ?_) (fun hb=> ?_)<;>have h:=hb<;>(try simp only[wf_preprocess] at h)<;>simp -implicitDefEqProofs (disch:=omega) only[go_sem,hb]<;>(repeat(with_reducible refine And.intro ?_ ?_;focus first|omega|rfl|assumption|exact⟨_,rfl,rfl⟩|(simp;omega)|(simp;done)))
 ·have hi':i<x.aA.length:=by omega
  have hz:=hall _ (List.getElem_mem hi');have hs:=Yu i hi';have hb:=ahb (b:=false) (y:=x.aA[i]) (.inl rfl);rw[List.getElem_map] at hs;simp only[aU.aj,ay.aj,List.cons_append,List.nil_append,hb.1,hb.2] at hs
  (repeat(with_reducible refine And.intro ?_ ?_;focus first|omega|rfl|assumption|exact⟨_,rfl,rfl⟩|(simp;omega)|(simp;done)))
  refine aB (eX x.aA[i] 0 hz (by omega)) ?_;simp -implicitDefEqProofs (disch:=omega) only[go_sem]
  (repeat(with_reducible refine And.intro ?_ ?_;focus first|omega|rfl|assumption|exact⟨_,rfl,rfl⟩|(simp;omega)|(simp;done)))
  refine aB (eX x.aA[i] 1 hz (by omega)) ?_;simp -implicitDefEqProofs (disch:=omega) only[go_sem];refine aB (ng (x.aA[i].aA.getD 1 dz) (uK _ 1 hz)) ?_;simp -implicitDefEqProofs (disch:=omega) only[go_sem]
  (repeat(with_reducible refine And.intro ?_ ?_;focus first|omega|rfl|assumption|exact⟨_,rfl,rfl⟩|(simp;omega)|(simp;done)))
  show _;rw[show(x.aA[i].aA.getD 0 dz).bK=dM x.aA[i].aA 0 from rfl,hs];exact cZ (i+1) (by omega) rfl rfl (by omega)
 ·have hi':i=(x.aA.map (qP false)).length:=by rw[List.length_map];omega
  rw[hi',List.take_length]
theorem Sq(x:au)(hsz:x.sz<=1048576):bg prog 243 [x.v] (.eu [(true,(GN x).cv),(false,[.d (.b (okF x))])]):=bg.of_le fun S=>by
 have h1:=gV x;have hds:=Vs false x;have hos:=agO (f:=zF false x) (by omega);have hgs:=fun i=>uK x i (m:=4194304) (by omega);obtain⟨l,hl⟩:∃l,l=(x.aA.getD 4 dz).aA:=⟨_,rfl⟩;have hg4:=gV (x.aA.getD 4 dz)
 have hll:l.length<=4194304:=by have:=hgs 4;rw[hl];omega
 have hlm:∀y∈l,y.sz<=4194304:=fun y hy=>by
  have:=hgs 4;have:=kY (hl▸hy);omega
 obtain⟨F,hF⟩:∃F,F=zF false x:=⟨_,rfl⟩
 have f1:F.fName=(x.aA.getD 1 dz).bK:=by rw[hF];rfl
 have f2:F.aS=gy (x.aA.getD 2 dz).aA:=by rw[hF];rfl
 have f3:F.dS=(x.aA.getD 3 dz).aA.map (qP false):=by rw[hF];rfl
 have f5:F.cu=eT false (x.aA.getD 5 dz):=by rw[hF];rfl
 have f6:F.fBody=fA false (x.aA.getD 6 dz):=by rw[hF];rfl
 obtain⟨T,hT⟩:∃T:Nat->List (List D),T=fun i=>((l.map (qQ false)).take i).map dG.enc:=⟨_,rfl⟩
 have hT0:T 0=[]:=by rw[hT];rfl
 have iG:∀i,(T i).length<=i:=fun i=>by rw[hT];simp only[List.length_map];exact List.length_take_le _ _
 have hTs:∀i (hi:i<l.length),T i++[(qQ false l[i]).enc]=T (i+1):=fun i hi=>by
  have:=Ag (e:=dG.enc) (l:=l.map (qQ false)) (i:=i) (by rw[List.length_map];exact hi);rw[List.getElem_map] at this;rw[hT];exact this
 have hTe:T l.length=F.bP.map dG.enc:=by
  rw[hT];simp only
  rw[List.take_of_length_le (by simp),hF,hl];rfl
 clear hT
 have jK:okF x=false->Less (.eu [(true,Sn),(false,[.d (.b false)])]) (.eu [(true,(GN x).cv),(false,[.d (.b (okF x))])]):=fun e=>by
  rw[e];exact amM _ (aiY e) false
 have c5:=ng (x.aA.getD 5 dz) (hgs 5);have c6:=CZ (x.aA.getD 6 dz) (hgs 6);have c2:=oI _ (hgs 2);have c3:=Fx _ (hgs 3);rw[<-f2] at c2;rw[<-f3] at c3;rw[<-f5] at c5;rw[<-f6] at c6;refine zcx [.cell 2 117,.tmp 3] func243 ntmps243 ?_;simp -implicitDefEqProofs (disch:=omega) only[go_sem];refine aB (eX x 1 (by omega) (by omega)) ?_;simp -implicitDefEqProofs (disch:=omega) only[go_sem];refine aB (eX x 2 (by omega) (by omega)) ?_;simp -implicitDefEqProofs (disch:=omega) only[go_sem];refine aB c2 ?_;simp -implicitDefEqProofs (disch:=omega) only[go_sem];refine aB (eX x 3 (by omega) (by omega)) ?_;simp -implicitDefEqProofs (disch:=omega) only[go_sem];refine aB c3 ?_;simp -implicitDefEqProofs (disch:=omega) only[go_sem];refine aB (eX x 5 (by omega) (by omega)) ?_;simp -implicitDefEqProofs (disch:=omega) only[go_sem];refine aB c5 ?_;simp -implicitDefEqProofs (disch:=omega) only[go_sem];refine aB (eX x 6 (by omega) (by omega)) ?_;simp -implicitDefEqProofs (disch:=omega) only[go_sem];refine aB c6 ?_;simp -implicitDefEqProofs (disch:=omega) only[go_sem]
 (repeat(with_reducible refine And.intro ?_ ?_;focus first|omega|rfl|assumption|exact⟨_,rfl,rfl⟩|(simp;omega)|(simp;done)))
 refine aB (eX x 4 (by omega) (by omega)) ?_;simp -implicitDefEqProofs (disch:=omega) only[go_sem];rw[<-hl,<-f1];refine jD 2 3 4 _ rfl rfl ?_
 refine bO (ι:=Nat) zmx rfl [1,2,4,5,6] (fun i=>[.c (.ptr (0,0) 0),.c (.ptr (0,1) 0),.c (.ptr (0,2) 0),.c (.ptr (0,3) 0),.c (.d (.i .i64 i))])
  (fun i=>[.box [.d (.s x.bK),.d (.sl (x.aA.map au.enc))],.box Sn,.box [.d (.s F.fName),.d (.sl (F.aS.map encS)),.d (.sl (F.dS.map aU.enc)),.bS (0,4) (T i),.d (.i .i64 F.cu.aV),.d (.s F.cu.fName),.d (.sl (F.cu.fArgs.map ay.enc)),
    .d (.i .i64 F.fBody.aV),.d (.s F.fBody.bU),.d (.s F.fBody.fName),.d (.i .i64 F.fBody.fN),.d (.i .i64 F.fBody.fType.aV),.d (.s F.fBody.fType.fName),.d (.sl (F.fBody.fType.fArgs.map ay.enc)),.d (.sl (F.fBody.fArgs.map aC.enc)),.d (.sl (F.fBody.bH.map bn.enc))],
    .box [.d (.s (x.aA.getD 4 dz).bK),.d (.sl (l.map au.enc))],.tok 4 (T i)]::S)
  (fun i=>i<=l.length) (fun i=>l.length-i) 0 rfl (by rw[hT0];rfl) (Nat.zero_le _) ?_
 intro i hi;have hl':=iG i;simp -implicitDefEqProofs (disch:=omega) only[go_sem]
 with_reducible refine aD (fun hb=> ?_) (fun hb=> ?_)<;>have h:=hb<;>(try simp only[wf_preprocess] at h)<;>simp -implicitDefEqProofs (disch:=omega) only[go_sem,hb]<;>(repeat(with_reducible refine And.intro ?_ ?_;focus first|omega|rfl|assumption|exact⟨_,rfl,rfl⟩|(simp;omega)|(simp;done)))
 ·have hi':i<l.length:=by omega
  have hz:=hlm _ (List.getElem_mem hi');have hs:=hTs i hi';have hb:=aa8 (b:=false) (y:=l[i]) (.inl rfl);simp only[dG.aj,ay.aj,List.cons_append,List.nil_append,hb.1,hb.2] at hs
  (repeat(with_reducible refine And.intro ?_ ?_;focus first|omega|rfl|assumption|exact⟨_,rfl,rfl⟩|(simp;omega)|(simp;done)))
  refine aB (eX l[i] 0 hz (by omega)) ?_;simp -implicitDefEqProofs (disch:=omega) only[go_sem]
  (repeat(with_reducible refine And.intro ?_ ?_;focus first|omega|rfl|assumption|exact⟨_,rfl,rfl⟩|(simp;omega)|(simp;done)))
  refine aB (eX l[i] 1 hz (by omega)) ?_;simp -implicitDefEqProofs (disch:=omega) only[go_sem];refine aB (ng (l[i].aA.getD 1 dz) (uK _ 1 hz)) ?_;simp -implicitDefEqProofs (disch:=omega) only[go_sem]
  (repeat(with_reducible refine And.intro ?_ ?_;focus first|omega|rfl|assumption|exact⟨_,rfl,rfl⟩|(simp;omega)|(simp;done)))
  rw[show(l[i].aA.getD 0 dz).bK=dM l[i].aA 0 from rfl,hs];exact dZ 5 (by decide) (i+1) (by omega) rfl rfl rfl rfl (by omega)
 ·have hi':i=l.length:=by omega
  subst hi';rw[hTe];clear hTs;refine aB (lU x (by omega)) ?_;simp -implicitDefEqProofs (disch:=omega) only[go_sem]
  with_reducible refine aD (fun hb=> ?_) (fun hb=> ?_)<;>have h:=hb<;>(try simp only[wf_preprocess] at h)<;>simp -implicitDefEqProofs (disch:=omega) only[go_sem,hb]<;>(repeat(with_reducible refine And.intro ?_ ?_;focus first|omega|rfl|assumption|exact⟨_,rfl,rfl⟩|(simp;omega)|(simp;done)))
  ·exact jK (bM fun e=>by rw[e.1] at h;cases h)
  have hv:=h
  with_reducible refine aD (fun hb=> ?_) (fun hb=> ?_)<;>have h:=hb<;>(try simp only[wf_preprocess] at h)<;>simp -implicitDefEqProofs (disch:=omega) only[go_sem,hb]<;>(repeat(with_reducible refine And.intro ?_ ?_;focus first|omega|rfl|assumption|exact⟨_,rfl,rfl⟩|(simp;omega)|(simp;done)))
  ·exact jK (bM fun e=>by omega)
  have hne:x.aA≠[]:=fun e=>by rw[e] at h;exact h rfl
  have hok:=aex hne;rw[hv,Bool.true_and] at hok;rw[<-hF] at hok hos hds
  (repeat(with_reducible refine And.intro ?_ ?_;focus first|omega|rfl|assumption|exact⟨_,rfl,rfl⟩|(simp;omega)|(simp;done)))
  refine aB (aaP F (by omega)) ?_;simp -implicitDefEqProofs (disch:=omega) only[go_sem];refine aB (qA (RQ F) x (by omega)) ?_;simp -implicitDefEqProofs (disch:=omega) only[go_sem]
  with_reducible refine aD (fun hb=> ?_) (fun hb=> ?_)<;>have h:=hb<;>(try simp only[wf_preprocess] at h)<;>simp -implicitDefEqProofs (disch:=omega) only[go_sem,hb]<;>(repeat(with_reducible refine And.intro ?_ ?_;focus first|omega|rfl|assumption|exact⟨_,rfl,rfl⟩|(simp;omega)|(simp;done)))
  ·exact jK (by rw[hok];exact bM h)
  ·have hy:okF x=true:=by rw[hok];exact dH h
   rw[ahc hy,hy,<-aey hy,<-hF];exact jE _
end Go.Ab