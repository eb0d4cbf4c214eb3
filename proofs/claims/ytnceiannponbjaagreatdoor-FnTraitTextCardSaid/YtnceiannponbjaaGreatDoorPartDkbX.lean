/-
  SEVERAL TEXTS IN ONE (merged by program): contracts and models, each with its own heading.
-/
import Derived.Test.YtnceiannponbjaaGreatDoorPartDkbS
import Derived.Test.YtnceiannponbjaaGreatDoorPartDkbV
import Derived.Test.YtnceiannponbjaaGreatDoorPartDkbW
import Derived.Test.YtnceiannponbjaaGreatDoorRows
import Derived.LaidMore
import Derived.Stop.LaidErr
set_option maxHeartbeats 8000000
open Go.Proofs Go.Proofs.Tryz
set_option linter.unusedSimpArgs false
set_option linter.unusedVariables false
set_option maxRecDepth 4000
set_option maxRecDepth 8000
namespace Go.Ab
def KW:aF:=⟨[],[],jo,false,[],lF⟩
def sI(b:Bool)(l:List ah):Bool:=match b with
 |true=>decide (l.length=5)
 |false=>decide (3<l.length)
def gU(b:Bool)(y:ah):aF:=if b=true/\y.aj.length<3 then KW else
 ⟨dB y.aj 0,(gX y.aj 1).aj.map (dI b),dI b (gX y.aj 2),sI b y.aj,if sI b y.aj=true then vU y.aj 3 else [],if sI b y.aj=true then dN b (gX y.aj 4) else lF⟩
def nK(b:Bool)(x:ah):aU:=
 ⟨dB x.aj 1,vU x.aj 2,decide (oK∈vU x.aj 3),decide (fT∈vU x.aj 3),(x.aj.drop 4).map (gU b)⟩
theorem Zf{g:aF}(h:fM g=true):(g.fq=true->∀v∈g.aX,v≠[])/\(g.fq=false->g.aX=[]/\g.fBody=lF):=by
 unfold fM at h;simp only[Bool.and_eq_true] at h;obtain⟨_,_,_,_,h3⟩:=h;refine⟨fun hd=> ?_,fun hd=> ?_⟩
 ·rw[if_pos hd,Bool.and_eq_true] at h3;have:=h3.2;unfold sF at this;rw[Bool.and_eq_true] at this;exact KQ this.1
 ·rw[if_neg (by rw[hd];decide),Bool.and_eq_true] at h3;exact⟨List.eq_nil_of_length_eq_zero (iX h3.1),iX h3.2⟩
theorem Zg(b:Bool){g:aF}(h:fM g=true):gU b (kU g)=g:=by
 obtain⟨h1,h2,h3⟩:=ni h;obtain⟨h4,h5⟩:=Zf h;unfold gU
 cases hd:g.fq with
 |true=>
  rw[vN hd,if_neg (by simp)]
  have e:sI b [bn g.fName,dA (g.bL.map dK),dK g.bP,dA (aP g.aX),dZ g.fBody]=true:=by cases b<;>rfl
  rw[e,if_pos rfl,if_pos rfl];show aF.mk g.fName ((g.bL.map dK).map (dI b)) (dI b (dK g.bP)) true (fC (aP g.aX)) (dN b (dZ g.fBody))=g;rw[Gb b h1,Fx b _ h2,u6 (h4 hd),KR b _ (h3 hd),<-hd]
 |false=>
  rw[vO hd,if_neg (by simp)]
  have e:sI b [bn g.fName,dA (g.bL.map dK),dK g.bP]=false:=by cases b<;>rfl
  rw[e,if_neg (by decide),if_neg (by decide)];show aF.mk g.fName ((g.bL.map dK).map (dI b)) (dI b (dK g.bP)) false [] lF=g;obtain⟨e1,e2⟩:=h5 hd;rw[Gb b h1,Fx b _ h2,<-e2]
  conv=>lhs;rw[<-e1,<-hd]
theorem KX{t:aU}(h:cZ t=true):∀v∈t.aV,v≠[]:=by
 unfold cZ at h;simp only[Bool.and_eq_true] at h;exact KQ h.2.2.1
theorem Zh(t:aU):∀v∈jk t,v≠[]:=fun v hv=>by
 unfold jk at hv;rw[List.mem_append] at hv;rcases hv with h|h
 ·split at h
  ·rw[List.mem_singleton.1 h];decide
  ·cases h
 ·split at h
  ·rw[List.mem_singleton.1 h];decide
  ·cases h
theorem J4(t:aU):decide (oK∈jk t)=t.jR/\decide (fT∈jk t)=t.eX:=by
 unfold jk;cases t.jR<;>cases t.eX<;>exact⟨by decide,by decide⟩
theorem zC(b:Bool){t:aU}(h:cZ t=true):nK b (kV t)=t:=by
 have h1:=(gN h).1;show aU.mk t.fName (fC (aP t.aV)) (decide (oK∈fC (aP (jk t)))) (decide (fT∈fC (aP (jk t)))) ((t.aC.map kU).map (gU b))=t;rw[u6 (KX h),u6 (Zh t),(J4 t).1,(J4 t).2,acg fun c hc=>Zg b (h1 c hc)]
noncomputable def nL(x:ah):Bool:=dec (iK x=true/\(4<=x.aj.length/\dB x.aj 0=sG)/\cZ (nK true x)=true/\kV (nK true x)=x)
theorem Zi{x:ah}(hx:x.aj≠[]):nL x=(iK x&&dec (iF (nK false x)=x)):=
 af2 hx (fun a h1 h2=>by rw[<-h2];exact⟨zC true h1,zC false h1⟩) fun a h=>by rw[<-h];exact⟨by rw[kV,dX];simp[gu],rfl⟩
theorem Zj{x:ah}(h:nL x=true):nK false x=nK true x:=by
 have h1:=iX h
 conv=>lhs;rw[<-h1.2.2.2]
 exact zC false h1.2.2.1
def Bv:aU:=⟨[],[],false,false,[]⟩
noncomputable def lN(x:ah):aU:=if nL x=true then nK true x else Bv
theorem acn(b:Bool)(l:List ah):bC ((l.map (dI b)).map ak.enc)<=dG l:=by
 have:=CF b l;rw[wW] at this;rw[Ch];exact this
theorem Zk(b:Bool)(y:ah):(gU b y).sz<=y.sz:=by
 have h1:=ED y.aj;have h2:=Hg y;have h3:=Hg (gX y.aj 0);have h4:=acn b (gX y.aj 1).aj;have h4':=Hg (gX y.aj 1);have h5:=KP b (gX y.aj 2);have h6:=z8 (gX y.aj 3).aj;have h6':=Hg (gX y.aj 3);have h7:=Fy b (gX y.aj 4);unfold gU;split
 ·simp only[KW,aF.sz,aF.aB,bN,bR,D.sz,ak.dQ,ay.dQ,Ev,wY,List.map_nil,bC,List.length_nil];omega
 ·cases sI b y.aj with
  |true=>
   simp only[if_true,aF.sz,aF.aB,bN,bR,D.sz,ak.dQ,ay.dQ,List.length_map,vU,fJ,Wl];omega
  |false=>
   simp only[Bool.false_eq_true,if_false,aF.sz,aF.aB,bN,bR,D.sz,ak.dQ,ay.dQ,List.length_map,wY,List.map_nil,bC,List.length_nil,Wl];omega
theorem J5(b:Bool):∀l:List ah,bC ((l.map (gU b)).map aF.enc)<=dG l
 |[]=>by simp[bC]
 |y::l=>by
  have h1:=Zk b y;have h2:=J5 b l;rw[List.map_cons,List.map_cons,bC,dG];simp only[aF.sz] at h1;omega
theorem Hl(b:Bool)(x:ah):(nK b x).sz<=x.sz:=by
 have h1:=acf x.aj;have h2:=Hg x;have h3:=Hg (gX x.aj 1);have h4:=z8 (gX x.aj 2).aj;have h4':=Hg (gX x.aj 2);have h5:=J5 b (x.aj.drop 4);simp only[aU.sz,aU.aB,bN,bR,D.sz,nK,List.length_map,List.length_drop,vU,fJ,Wl];omega
theorem Zl:Bv.sz=0:=by
 simp only[Bv,aU.sz,aU.aB,bN,bR,D.sz,List.map_nil,bC,List.length_nil]
theorem Ta{x:ah}(h:x.sz<=1048576):(lN x).sz<=1048576:=by
 have:=Hl true x;unfold lN;split
 ·omega
 ·rw[Zl];omega
def Zm(x:aF)(q:Nat):Nat:=q+(gG x.bL+1)
def q3S(x:aF)(q:Nat):Nat:=Zm x q+(gG x.bP.fArgs+1)
def Ms(x:aF)(q:Nat):Nat:=q3S x q+1
theorem EF(x:aF)(q:Nat):dS x.enc q=[.s x.fName,.ol q (lt x.bL (q+1)),.i .i64 x.bP.aL,.s x.bP.fName,.ol (Zm x q) (lt x.bP.fArgs (Zm x q+1)),.b x.fq,.ol (q3S x q) (x.aX.map encS),
 .i .i64 x.fBody.aL,.s x.fBody.bE,.s x.fBody.fName,.i .i64 x.fBody.fN,.i .i64 x.fBody.fType.aL,.s x.fBody.fType.fName,.ol (Ms x q) (lt x.fBody.fType.fArgs (Ms x q+1)),
 .ol (Ms x q+(gG x.fBody.fType.fArgs+1)) (lE x.fBody.fArgs (Ms x q+(gG x.fBody.fType.fArgs+1)+1)),.ol (Ms x q+(gG x.fBody.fType.fArgs+1)+(mH x.fBody.fArgs+1)) (lM x.fBody.aK (Ms x q+(gG x.fBody.fType.fArgs+1)+(mH x.fBody.fArgs+1)+1))]:=by
 simp only[aF.aB,ay.aB,ak.aB,List.cons_append,List.nil_append,dS,lJ,oV,Nat.add_zero,lt,lE,lM,gG,mH,Zm,q3S,Ms,Ck,Hf,Nat.zero_add]
def aco(l:List aF)(n:Nat):List (List D):=eP (l.map aF.enc) n
abbrev aU.cl(x:aU)(n:Nat):List C:=[.d (.s x.fName),.d (.ol n (x.aV.map encS)),.d (.b x.jR),.d (.b x.eX),.d (.ol (n+1) (aco x.aC (n+1+1)))]
abbrev aU.cv(x:aU):List C:=[.d (.s x.fName),.d (.sl (x.aV.map encS)),.d (.b x.jR),.d (.b x.eX),.d (.sl (x.aC.map aF.enc))]
theorem Qe(x:aU)(n:Nat):(dS x.enc n).map C.d=x.cl n:=by
 simp only[aU.aB,dS,lJ,oV,Nat.add_zero,aco,Ck,Hf,Nat.zero_add,List.map_cons,List.map_nil];rfl
theorem Qf(x:aU)(n:Nat):Less (.agg (x.cl n)) x.v:=by
 have:=vL (r:=x.enc) (n:=n);rw[Qe,aU.oq] at this;exact this
theorem Tc{x:ah}(h:nL x=false):lN x=Bv:=if_neg (by rw[h];decide)
theorem Qg{x:ah}(h:nL x=true):lN x=nK true x:=if_pos h
abbrev Bw:List C:=[.d (.s []),.bA [],.d (.b false),.d (.b false),.bA []]
theorem ahw(e:aU)(h:e=Bv)(ok:Bool):Less (.eG [(true,Bw),(false,[.d (.b ok)])]) (.eG [(true,e.cv),(false,[.d (.b ok)])]):=by
 rw[h];exact(kZ.cons (.cons (.refl _) (.cons (jG _) (.cons (.refl _) (.cons (.refl _) (.cons (jG _) .nil))))) (.refl _)).less
theorem aeF(e:aU)(h:e=Bv)(n:Nat)(ok:Bool):Less (.eG [(true,Bw),(false,[.d (.b ok)])]) (.eG [(true,e.cl n),(false,[.d (.b ok)])]):=by
 rw[h];exact(kZ.cons (.cons (.refl _) (.cons (gP _) (.cons (.refl _) (.cons (.refl _) (.cons (gP _) .nil))))) (.refl _)).less
theorem RS{y:ah}(h:y.aj.length=5):gU true y=⟨y.aj[0].aQ,y.aj[1].aj.map (dI true),dI true y.aj[2],true,fC y.aj[3].aj,dN true y.aj[4]⟩:=by
 unfold gU;rw[if_neg (by omega),show sI true y.aj=true from decide_eq_true h,if_pos rfl,if_pos rfl,lK (by omega),vg (by omega:1<y.aj.length),vg (by omega:2<y.aj.length),vg (by omega:4<y.aj.length)];unfold vU;rw[vg (by omega:3<y.aj.length)]
theorem RU{y:ah}(h:3<=y.aj.length)(h5:y.aj.length≠5):gU true y=⟨y.aj[0].aQ,y.aj[1].aj.map (dI true),dI true y.aj[2],false,[],lF⟩:=by
 unfold gU;rw[if_neg (by omega),show sI true y.aj=false from decide_eq_false h5,if_neg (by decide),if_neg (by decide),lK (by omega),vg (by omega:1<y.aj.length),vg (by omega:2<y.aj.length)]
theorem RV{y:ah}(h:y.aj.length<3):gU true y=KW:=if_pos ⟨rfl,h⟩
theorem Qh{y:ah}(h:3<y.aj.length):gU false y=⟨(y.aj.getD 0 eH).aQ,(y.aj.getD 1 eH).aj.map (dI false),dI false (y.aj.getD 2 eH),true,fC (y.aj.getD 3 eH).aj,dN false (y.aj.getD 4 eH)⟩:=by
 unfold gU;rw[if_neg (by simp),show sI false y.aj=true from decide_eq_true h];rfl
theorem Qi{y:ah}(h:¬3<y.aj.length):gU false y=⟨(y.aj.getD 0 eH).aQ,(y.aj.getD 1 eH).aj.map (dI false),dI false (y.aj.getD 2 eH),false,[],lF⟩:=by
 unfold gU;rw[if_neg (by simp),show sI false y.aj=false from decide_eq_false h];rfl
theorem Wn:lF.enc=[.i .i64 0,.s [],.s [],.i .i64 0,.i .i64 0,.s [],.sl [],.sl [],.sl []]:=by
 rw[ay.aB];rfl
theorem Ae(x:ah){m:Nat}(h:x.sz<=m):(fC x.aj).length<=m:=by
 have:=(z8 x.aj).1;have:=iy x;omega
theorem Qj(x:ah)(hsz:x.sz<=1048576):aG prog 23 [x.v] (.eG [(true,(lN x).cv),(false,[.d (.b (nL x))])]):=aG.of_le fun S=>by
 have h1:=iy x;have hds:=Hl false x;have hos:=abO (x:=nK false x) (by omega);have hgs:=fun i=>CJ x i (m:=4194304) (by omega);obtain⟨l,hl⟩:∃l,l=x.aj.drop 4:=⟨_,rfl⟩
 have hll:l.length<=4194304:=by rw[hl,List.length_drop];omega
 have hlm:∀y∈l,y.sz<=4194304:=fun y hy=>by have:=jL (List.mem_of_mem_drop (hl▸hy));omega
 obtain⟨F,hF⟩:∃F,F=nK false x:=⟨_,rfl⟩
 have f1:F.fName=(x.aj.getD 1 eH).aQ:=by rw[hF];rfl
 have f2:F.aV=fC (x.aj.getD 2 eH).aj:=by rw[hF];rfl
 have f3:F.jR=dec (oK∈fC (x.aj.getD 3 eH).aj):=by rw[hF,<-jr];rfl
 have f4:F.eX=dec (fT∈fC (x.aj.getD 3 eH).aj):=by rw[hF,<-jr];rfl
 obtain⟨T,hT⟩:∃T:Nat->List (List D),T=fun i=>((l.map (gU false)).take i).map aF.enc:=⟨_,rfl⟩
 have hT0:T 0=[]:=by rw[hT];rfl
 have mF:∀i,(T i).length<=i:=fun i=>by rw[hT];simp only[List.length_map];exact List.length_take_le _ _
 have hTs:∀i (hi:i<l.length),T i++[(gU false l[i]).enc]=T (i+1):=fun i hi=>by
  have:=Wm (e:=aF.enc) (l:=l.map (gU false)) (i:=i) (by rw[List.length_map];exact hi);rw[List.getElem_map] at this;rw[hT];exact this
 have hTe:T l.length=F.aC.map aF.enc:=by
  rw[hT];simp only
  rw[List.take_of_length_le (by simp),hF,hl];rfl
 clear hT
 have CK:nL x=false->Less (.eG [(true,Bw),(false,[.d (.b false)])]) (.eG [(true,(lN x).cv),(false,[.d (.b (nL x))])]):=fun e=>by
  rw[e];exact ahw _ (Tc e) false
 have c2:=zy _ (hgs 2);have c3:=ow (fC (x.aj.getD 3 eH).aj) oK (by have:=Ae _ (hgs 3);omega);have c4:=ow (fC (x.aj.getD 3 eH).aj) fT (by have:=Ae _ (hgs 3);omega);rw[<-f2] at c2;rw[<-f3] at c3;rw[<-f4] at c4;refine zcx [.cell 2 48,.tmp 3] func23 ntmps23 ?_;simp -implicitDefEqProofs (disch:=omega) only[go_sem];refine au (pQ x 3 (by omega) (by omega)) ?_;simp -implicitDefEqProofs (disch:=omega) only[go_sem];refine au (zy _ (hgs 3)) ?_;simp -implicitDefEqProofs (disch:=omega) only[go_sem];refine au (pQ x 1 (by omega) (by omega)) ?_;simp -implicitDefEqProofs (disch:=omega) only[go_sem];refine au (pQ x 2 (by omega) (by omega)) ?_;simp -implicitDefEqProofs (disch:=omega) only[go_sem];refine au c2 ?_;simp -implicitDefEqProofs (disch:=omega) only[go_sem];refine au c3 ?_;simp -implicitDefEqProofs (disch:=omega) only[go_sem];refine au c4 ?_;simp -implicitDefEqProofs (disch:=omega) only[go_sem]
 (repeat(with_reducible refine And.intro ?_ ?_;focus first|omega|rfl|assumption|exact⟨_,rfl,rfl⟩|(simp;omega)|(simp;done)))
 refine au (RH x 4 (by omega)) ?_;simp -implicitDefEqProofs (disch:=omega) only[go_sem];rw[<-hl,<-f1];refine zY 2 4 16 _ rfl rfl ?_
 refine aZ (ι:=Nat) zmx rfl [1,2,5,6,7] (fun i=>[.c (.ptr (0,0) 0),.c (.ptr (0,1) 0),.c (.ptr (0,2) 0),.c (.d (.sl (l.map ah.enc))),.c (.d (.i .i64 i))])
  (fun i=>[.box [.d (.s x.aQ),.d (.sl (x.aj.map ah.enc))],.box Bw,.box [.d (.s F.fName),.d (.sl (F.aV.map encS)),.d (.b F.jR),.d (.b F.eX),.bG (0,3) (T i)],.tok 16 (T i)]::S)
  (fun i=>i<=l.length) (fun i=>l.length-i) 0 rfl (by rw[hT0];rfl) (Nat.zero_le _) ?_
 intro i hi;have hl':=mF i;simp -implicitDefEqProofs (disch:=omega) only[go_sem]
 with_reducible refine aA (fun hb=> ?_) (fun hb=> ?_)<;>have h:=hb<;>(try simp only[wf_preprocess] at h)<;>simp -implicitDefEqProofs (disch:=omega) only[go_sem,hb]<;>(repeat(with_reducible refine And.intro ?_ ?_;focus first|omega|rfl|assumption|exact⟨_,rfl,rfl⟩|(simp;omega)|(simp;done)))
 ·have hi':i<l.length:=by omega
  have hz:=hlm _ (List.getElem_mem hi');have hs:=hTs i hi';have hg:=fun k=>CJ l[i] k hz;have hg1:=hg 1;have ajV:=iy (l[i].aj.getD 1 eH);have hz1:=iy l[i]
  (repeat(with_reducible refine And.intro ?_ ?_;focus first|omega|rfl|assumption|exact⟨_,rfl,rfl⟩|(simp;omega)|(simp;done)))
  refine au (pQ l[i] 0 hz (by omega)) ?_;simp -implicitDefEqProofs (disch:=omega) only[go_sem]
  (repeat(with_reducible refine And.intro ?_ ?_;focus first|omega|rfl|assumption|exact⟨_,rfl,rfl⟩|(simp;omega)|(simp;done)))
  refine au (pQ l[i] 1 hz (by omega)) ?_;simp -implicitDefEqProofs (disch:=omega) only[go_sem];refine au (MS (l[i].aj.getD 1 eH).aj (by omega) (fun t ht=>by have:=jL ht;omega)) ?_;simp -implicitDefEqProofs (disch:=omega) only[go_sem]
  (repeat(with_reducible refine And.intro ?_ ?_;focus first|omega|rfl|assumption|exact⟨_,rfl,rfl⟩|(simp;omega)|(simp;done)))
  refine au (pQ l[i] 2 hz (by omega)) ?_;simp -implicitDefEqProofs (disch:=omega) only[go_sem];refine au (zA (l[i].aj.getD 2 eH) (hg 2)) ?_;simp -implicitDefEqProofs (disch:=omega) only[go_sem]
  (repeat(with_reducible refine And.intro ?_ ?_;focus first|omega|rfl|assumption|exact⟨_,rfl,rfl⟩|(simp;omega)|(simp;done)))
  with_reducible refine aA (fun hb=> ?_) (fun hb=> ?_)<;>have h:=hb<;>(try simp only[wf_preprocess] at h)<;>simp -implicitDefEqProofs (disch:=omega) only[go_sem,hb]<;>(repeat(with_reducible refine And.intro ?_ ?_;focus first|omega|rfl|assumption|exact⟨_,rfl,rfl⟩|(simp;omega)|(simp;done)))
  ·rw[Qh (by omega)] at hs;simp only[aF.aB,ay.aB,ak.aB,List.cons_append,List.nil_append] at hs
   (repeat(with_reducible refine And.intro ?_ ?_;focus first|omega|rfl|assumption|exact⟨_,rfl,rfl⟩|(simp;omega)|(simp;done)))
   refine au (pQ l[i] 3 hz (by omega)) ?_;simp -implicitDefEqProofs (disch:=omega) only[go_sem];refine au (zy _ (hg 3)) ?_;simp -implicitDefEqProofs (disch:=omega) only[go_sem]
   (repeat(with_reducible refine And.intro ?_ ?_;focus first|omega|rfl|assumption|exact⟨_,rfl,rfl⟩|(simp;omega)|(simp;done)))
   refine au (pQ l[i] 4 hz (by omega)) ?_;simp -implicitDefEqProofs (disch:=omega) only[go_sem];refine au (RO (l[i].aj.getD 4 eH) (hg 4)) ?_;simp -implicitDefEqProofs (disch:=omega) only[go_sem]
   (repeat(with_reducible refine And.intro ?_ ?_;focus first|omega|rfl|assumption|exact⟨_,rfl,rfl⟩|(simp;omega)|(simp;done)))
   rw[hs];exact dD 4 (by decide) (i+1) (by omega) rfl rfl rfl rfl (by omega)
  ·rw[Qi (by omega)] at hs;simp only[aF.aB,Wn,ak.aB,List.cons_append,List.nil_append,List.map_nil] at hs
   (repeat(with_reducible refine And.intro ?_ ?_;focus first|omega|rfl|assumption|exact⟨_,rfl,rfl⟩|(simp;omega)|(simp;done)))
   rw[hs];exact dD 4 (by decide) (i+1) (by omega) rfl rfl rfl rfl (by omega)
 ·have hi':i=l.length:=by omega
  subst hi';rw[hTe];clear hTs;refine au (xE x (by omega)) ?_;simp -implicitDefEqProofs (disch:=omega) only[go_sem]
  with_reducible refine aA (fun hb=> ?_) (fun hb=> ?_)<;>have h:=hb<;>(try simp only[wf_preprocess] at h)<;>simp -implicitDefEqProofs (disch:=omega) only[go_sem,hb]<;>(repeat(with_reducible refine And.intro ?_ ?_;focus first|omega|rfl|assumption|exact⟨_,rfl,rfl⟩|(simp;omega)|(simp;done)))
  ·exact CK (aO fun e=>by rw[e.1] at h;cases h)
  have hv:=h
  with_reducible refine aA (fun hb=> ?_) (fun hb=> ?_)<;>have h:=hb<;>(try simp only[wf_preprocess] at h)<;>simp -implicitDefEqProofs (disch:=omega) only[go_sem,hb]<;>(repeat(with_reducible refine And.intro ?_ ?_;focus first|omega|rfl|assumption|exact⟨_,rfl,rfl⟩|(simp;omega)|(simp;done)))
  ·exact CK (aO fun e=>by omega)
  have hne:x.aj≠[]:=fun e=>by rw[e] at h;exact h rfl
  have hok:=Zi hne;rw[hv,Bool.true_and] at hok;rw[<-hF] at hok hos hds
  (repeat(with_reducible refine And.intro ?_ ?_;focus first|omega|rfl|assumption|exact⟨_,rfl,rfl⟩|(simp;omega)|(simp;done)))
  refine au (zX F (by omega)) ?_;simp -implicitDefEqProofs (disch:=omega) only[go_sem];refine au (mM (iF F) x (by omega)) ?_;simp -implicitDefEqProofs (disch:=omega) only[go_sem]
  with_reducible refine aA (fun hb=> ?_) (fun hb=> ?_)<;>have h:=hb<;>(try simp only[wf_preprocess] at h)<;>simp -implicitDefEqProofs (disch:=omega) only[go_sem,hb]<;>(repeat(with_reducible refine And.intro ?_ ?_;focus first|omega|rfl|assumption|exact⟨_,rfl,rfl⟩|(simp;omega)|(simp;done)))
  ·exact CK (by rw[hok];exact aO h)
  ·have hy:nL x=true:=by rw[hok];exact bJ h
   rw[Qg hy,hy,<-Zj hy,<-hF];exact iD _
theorem Ho(x:ah)(n:Nat)(hfo:iM x=true)(hlen:4<=x.aj.length)(hsz:x.sz<=1048576):aG prog 75 [x.v] (.agg ((nK true x).cl n)):=aG.of_le fun S=>by
 have h1:=iy x;obtain⟨F,hF⟩:∃F,F=nK true x:=⟨_,rfl⟩;have hr:=iq (l:=x.aj);have hzs:=fun i hi=>J3 x (i:=i) hi;have hz2:=hzs 2 (by omega);have hz3:=hzs 3 (by omega)
 have f1:F.fName=x.aj[1].aQ:=by rw[hF];exact lK (by omega)
 have f2:F.aV=fC x.aj[2].aj:=by rw[hF,<-vg (l:=x.aj) (i:=2) (by omega)];rfl
 have f3:F.jR=dec (oK∈fC x.aj[3].aj):=by rw[hF,<-jr,<-vg (l:=x.aj) (i:=3) (by omega)];rfl
 have f4:F.eX=dec (fT∈fC x.aj[3].aj):=by rw[hF,<-jr,<-vg (l:=x.aj) (i:=3) (by omega)];rfl
 obtain⟨l,hl⟩:∃l,l=x.aj.drop 4:=⟨_,rfl⟩
 have hll:l.length<=4194304:=by rw[hl,List.length_drop];omega
 have hlm:∀y∈l,y.sz<=1048576/\iM y=true:=fun y hy=>by
  have h2:=List.mem_of_mem_drop (hl▸hy);have:=jL h2;exact⟨by omega,sZ (EB hfo (fun e=>by rw[e] at h2;cases h2)) h2⟩
 obtain⟨L,hL⟩:∃L:Nat->Nat,L=fun i=>n+1+1+nZ (((l.map (gU true)).take i).map aF.enc):=⟨_,rfl⟩;obtain⟨T,hT⟩:∃T:Nat->List (List D),T=fun i=>eP (((l.map (gU true)).take i).map aF.enc) (n+1+1):=⟨_,rfl⟩
 have hT0:T 0=[]:=by rw[hT];rfl
 have mF:∀i,(T i).length<=i:=fun i=>by rw[hT];simp only[kT,List.length_map];exact List.length_take_le _ _
 have hTr:∀i,∀r∈T i,r.length=16:=fun i=>by
  rw[hT]
  exact Ci fun r hr=>by
   obtain⟨z,_,rfl⟩:=List.mem_map.1 hr;exact z.bI
 have hTs:∀i (hi:i<l.length),T i++[dS (gU true l[i]).enc (L i)]=T (i+1):=fun i hi=>by
  have:=RQ (e:=aF.enc) (l:=l.map (gU true)) (i:=i) (by rw[List.length_map];exact hi) (n+1+1);rw[List.getElem_map] at this;rw[hT,hL];exact this
 have hTe:T l.length=aco F.aC (n+1+1):=by
  rw[hT];simp only
  rw[List.take_of_length_le (by simp),hF,hl];rfl
 clear hT hL;have c2:=xJ x.aj[2] (by omega) n;have c3:=nC (fC x.aj[3].aj) oK (by have:=Ae _ hz3;omega);have c4:=nC (fC x.aj[3].aj) fT (by have:=Ae _ hz3;omega);rw[<-f2] at c2;rw[<-f3] at c3;rw[<-f4] at c4;rw[<-hF];refine mX (n) (rs:=[.cell 2 48]) zmx func75 ntmps75 rfl rfl rfl rfl rfl ?_;simp -implicitDefEqProofs (disch:=omega) only[go_sem]
 (repeat(with_reducible refine And.intro ?_ ?_;focus first|omega|rfl|assumption|exact⟨_,rfl,rfl⟩|(simp;omega)|(simp;done)))
 refine au (xJ x.aj[3] (by omega) 0) ?_;simp -implicitDefEqProofs (disch:=omega) only[go_sem]
 (repeat(with_reducible refine And.intro ?_ ?_;focus first|omega|rfl|assumption|exact⟨_,rfl,rfl⟩|(simp;omega)|(simp;done)))
 refine au c2 ?_;simp -implicitDefEqProofs (disch:=omega) only[go_sem];refine sw c3 (.cons (Fu _ _) (.cons (iD _) .nil)) ?_;simp -implicitDefEqProofs (disch:=omega) only[go_sem];refine sw c4 (.cons (Fu _ _) (.cons (iD _) .nil)) ?_;simp -implicitDefEqProofs (disch:=omega) only[go_sem];refine⟨⟨by omega,by omega,hr⟩,?_⟩;rw[rO _ _ _ (Nat.le_refl _),<-hl,<-f1];simp -implicitDefEqProofs (disch:=omega) only[go_sem];refine Cz (n+1) 3 4 16 _ rfl rfl ?_
 refine aZ (ι:=Nat×List (List D)) zmx rfl [2,4,30,31,32] (fun y=>[.c (.ptr (0,2) 0),.c (.ptr (0,3) 0),.c (.d (.sl (l.map ah.enc))),.c (.d (.i .i64 l.length)),.c (.d (.i .i64 y.1))])
  (fun y=>[.seed n,.box [.d (.s x.aQ),.d (.sl (x.aj.map ah.enc))],.box Bw,.box [.d (.s F.fName),.d (.ol n (F.aV.map encS)),.d (.b F.jR),.d (.b F.eX),.bG (0,4) y.2],.eD (n+1) 16 y.2]::S)
  (fun y=>y.1<=l.length/\iL y.2 (T y.1)) (fun y=>l.length-y.1) (0,[]) rfl rfl ⟨Nat.zero_le _,by rw[hT0];exact .nil⟩ ?_
 rintro⟨i,U⟩ ⟨p1,p2⟩;simp only at p1 p2;have hU1:=p2.length;have hU2:=mF i;have hU3:=p2.rows (hTr i);simp -implicitDefEqProofs (disch:=omega) only[go_sem]
 with_reducible refine aA (fun hb=> ?_) (fun hb=> ?_)<;>have h:=hb<;>(try simp only[wf_preprocess] at h)<;>simp -implicitDefEqProofs (disch:=omega) only[go_sem,hb]<;>(repeat(with_reducible refine And.intro ?_ ?_;focus first|omega|rfl|assumption|exact⟨_,rfl,rfl⟩|(simp;omega)|(simp;done)))
 ·have hi':i<l.length:=by omega
  obtain⟨hz,hfy⟩:=hlm _ (List.getElem_mem hi');have hs:=hTs i hi';have hz1:=iy l[i]
  (repeat(with_reducible refine And.intro ?_ ?_;focus first|omega|rfl|assumption|exact⟨_,rfl,rfl⟩|(simp;omega)|(simp;done)))
  with_reducible refine aA (fun hb=> ?_) (fun hb=> ?_)<;>have h:=hb<;>(try simp only[wf_preprocess] at h)<;>simp -implicitDefEqProofs (disch:=omega) only[go_sem,hb]<;>(repeat(with_reducible refine And.intro ?_ ?_;focus first|omega|rfl|assumption|exact⟨_,rfl,rfl⟩|(simp;omega)|(simp;done)))
  ·have hl3:3<=l[i].aj.length:=by omega
   have hy1:=J3 l[i] (i:=1) (by omega);have ajW:=iy l[i].aj[1];have hy2:=J3 l[i] (i:=2) (by omega)
   (repeat(with_reducible refine And.intro ?_ ?_;focus first|omega|rfl|assumption|exact⟨_,rfl,rfl⟩|(simp;omega)|(simp;done)))
   refine au (KU l[i].aj[1].aj (L i) (L i+1) (by omega) (fun t ht=>by have:=jL ht;omega)) ?_;simp -implicitDefEqProofs (disch:=omega) only[go_sem]
   (repeat(with_reducible refine And.intro ?_ ?_;focus first|omega|rfl|assumption|exact⟨_,rfl,rfl⟩|(simp;omega)|(simp;done)))
   refine au (Db l[i].aj[2] (Zm (gU true l[i]) (L i)) (by omega)) ?_;simp -implicitDefEqProofs (disch:=omega) only[go_sem]
   (repeat(with_reducible refine And.intro ?_ ?_;focus first|omega|rfl|assumption|exact⟨_,rfl,rfl⟩|(simp;omega)|(simp;done)))
   with_reducible refine aA (fun hb=> ?_) (fun hb=> ?_)<;>have h:=hb<;>(try simp only[wf_preprocess] at h)<;>simp -implicitDefEqProofs (disch:=omega) only[go_sem,hb]<;>(repeat(with_reducible refine And.intro ?_ ?_;focus first|omega|rfl|assumption|exact⟨_,rfl,rfl⟩|(simp;omega)|(simp;done)))
   ·have hl5:l[i].aj.length=5:=by omega
    have hy3:=J3 l[i] (i:=3) (by omega);have hy4:=J3 l[i] (i:=4) (by omega);have hd:=RS hl5
    (repeat(with_reducible refine And.intro ?_ ?_;focus first|omega|rfl|assumption|exact⟨_,rfl,rfl⟩|(simp;omega)|(simp;done)))
    refine au (xJ l[i].aj[3] (by omega) (q3S (gU true l[i]) (L i))) ?_;simp -implicitDefEqProofs (disch:=omega) only[go_sem]
    (repeat(with_reducible refine And.intro ?_ ?_;focus first|omega|rfl|assumption|exact⟨_,rfl,rfl⟩|(simp;omega)|(simp;done)))
    refine au (Qc l[i].aj[4] (Ms (gU true l[i]) (L i)) (aeC hfy (by omega)) (by omega)) ?_;simp -implicitDefEqProofs (disch:=omega) only[go_sem]
    (repeat(with_reducible refine And.intro ?_ ?_;focus first|omega|rfl|assumption|exact⟨_,rfl,rfl⟩|(simp;omega)|(simp;done)))
    rw[EF] at hs;obtain⟨g,hg⟩:∃g,g=gU true l[i]:=⟨_,rfl⟩;rw[<-hg] at hs hd ⊢
    have e1:g.fName=l[i].aj[0].aQ:=by rw[hd]
    have e2:g.bL=l[i].aj[1].aj.map (dI true):=by rw[hd]
    have e3:g.bP=dI true l[i].aj[2]:=by rw[hd]
    have e4:g.fq=true:=by rw[hd]
    have e5:g.aX=fC l[i].aj[3].aj:=by rw[hd]
    have e6:g.fBody=dN true l[i].aj[4]:=by rw[hd]
    rw[e1,e2,e3,e4,e5,e6] at hs;refine dD 5 (by decide) (i+1,_) (by simp only;omega) rfl rfl rfl rfl ⟨by simp only;omega,?_⟩
    simp only
    rw[<-hs];exact p2.snoc (.refl _)
   ·have hd:=RU hl3 (by omega)
    (repeat(with_reducible refine And.intro ?_ ?_;focus first|omega|rfl|assumption|exact⟨_,rfl,rfl⟩|(simp;omega)|(simp;done)))
    rw[EF] at hs;obtain⟨g,hg⟩:∃g,g=gU true l[i]:=⟨_,rfl⟩;rw[<-hg] at hs hd ⊢
    have e1:g.fName=l[i].aj[0].aQ:=by rw[hd]
    have e2:g.bL=l[i].aj[1].aj.map (dI true):=by rw[hd]
    have e3:g.bP=dI true l[i].aj[2]:=by rw[hd]
    have e4:g.fq=false:=by rw[hd]
    have e5:g.aX=[]:=by rw[hd]
    have e6:g.fBody=lF:=by rw[hd]
    rw[e1,e2,e3,e4,e5,e6] at hs;refine dD 5 (by decide) (i+1,_) (by simp only;omega) rfl rfl rfl rfl ⟨by simp only;omega,?_⟩
    simp only
    rw[<-hs];exact p2.snoc (.cons (.refl _) (.cons (.refl _) (.cons (.refl _) (.cons (.refl _) (.cons (.refl _) (.cons (.refl _) (.cons (qG _) (.cons (.refl _) (.cons (.refl _) (.cons (.refl _) (.cons (.refl _) (.cons (.refl _) (.cons (.refl _) (.cons (qG _) (.cons (qG _) (.cons (qG _) .nil))))))))))))))))
  ·have hd:=RV (y:=l[i]) (by omega)
   with_reducible refine aA (fun hb=> ?_) (fun hb=> ?_)<;>have h:=hb<;>(try simp only[wf_preprocess] at h)<;>simp -implicitDefEqProofs (disch:=omega) only[go_sem,hb]<;>(repeat(with_reducible refine And.intro ?_ ?_;focus first|omega|rfl|assumption|exact⟨_,rfl,rfl⟩|(simp;omega)|(simp;done)))
   ·omega
   ·(repeat(with_reducible refine And.intro ?_ ?_;focus first|omega|rfl|assumption|exact⟨_,rfl,rfl⟩|(simp;omega)|(simp;done)))
    rw[hd,EF] at hs;refine dD 5 (by decide) (i+1,_) (by simp only;omega) rfl rfl rfl rfl ⟨by simp only;omega,?_⟩
    simp only
    rw[<-hs];exact p2.snoc (.cons (.refl _) (.cons (qG _) (.cons (.refl _) (.cons (.refl _) (.cons (qG _) (.cons (.refl _) (.cons (qG _) (.cons (.refl _) (.cons (.refl _) (.cons (.refl _) (.cons (.refl _) (.cons (.refl _) (.cons (.refl _) (.cons (qG _) (.cons (qG _) (.cons (qG _) .nil))))))))))))))))
 ·have hi':i=l.length:=by omega
  subst hi';rw[hTe] at p2;exact(eB.cons (.refl _) (.cons (.refl _) (.cons (.refl _) (.cons (.refl _) (.cons (VH p2) .nil))))).less
theorem MW(x:ah)(n:Nat)(hsz:x.sz<=1048576):aG prog 21 [x.v] (.eG [(true,(lN x).cl n),(false,[.d (.b (nL x))])]):=aG.of_le fun S=>by
 have hds:=Hl true x
 have CK:nL x=false->Less (.eG [(true,Bw),(false,[.d (.b false)])]) (.eG [(true,(lN x).cl n),(false,[.d (.b (nL x))])]):=fun e=>by
  rw[e];exact aeF _ (Tc e) n false
 refine zcx [.cell 2 48,.tmp 3] func21 ntmps21 ?_;simp -implicitDefEqProofs (disch:=omega) only[go_sem];refine au (V5 x sG 4 (by omega) (by omega) (by omega)) ?_;simp -implicitDefEqProofs (disch:=omega) only[go_sem]
 with_reducible refine aA (fun hb=> ?_) (fun hb=> ?_)<;>have h:=hb<;>(try simp only[wf_preprocess] at h)<;>simp -implicitDefEqProofs (disch:=omega) only[go_sem,hb]<;>(repeat(with_reducible refine And.intro ?_ ?_;focus first|omega|rfl|assumption|exact⟨_,rfl,rfl⟩|(simp;omega)|(simp;done)))
 ·exact CK (aO fun e=>h ⟨e.1,e.2.1.1,e.2.1.2⟩)
 have hf:=h;have hvx:=LD hf.1
 have hfo:iM x=true:=by have:=hf.1;unfold iK at this;rw[Bool.and_eq_true] at this;exact this.1
 refine au (Ho x n hfo hf.2.1 (by omega)) ?_;simp -implicitDefEqProofs (disch:=omega) only[go_sem];refine sw (oJ (nK true x) (by omega)) (.cons (Qf _ n) .nil) ?_;simp -implicitDefEqProofs (disch:=omega) only[go_sem]
 with_reducible refine aA (fun hb=> ?_) (fun hb=> ?_)<;>have h:=hb<;>(try simp only[wf_preprocess] at h)<;>simp -implicitDefEqProofs (disch:=omega) only[go_sem,hb]<;>(repeat(with_reducible refine And.intro ?_ ?_;focus first|omega|rfl|assumption|exact⟨_,rfl,rfl⟩|(simp;omega)|(simp;done)))
 ·exact CK (aO fun e=>by rw[e.2.2.1] at h;cases h)
 have hv:=h;have hz:=Bq hv
 (repeat(with_reducible refine And.intro ?_ ?_;focus first|omega|rfl|assumption|exact⟨_,rfl,rfl⟩|(simp;omega)|(simp;done)))
 refine sw (aG.less (C8 (nK true x) 0 hv (by omega)) (KJ (kV (nK true x)) 0)) (.cons (Qf _ n) .nil) ?_;simp -implicitDefEqProofs (disch:=omega) only[go_sem];refine au (FD (kV (nK true x)) x (by omega)) ?_;simp -implicitDefEqProofs (disch:=omega) only[go_sem]
 with_reducible refine aA (fun hb=> ?_) (fun hb=> ?_)<;>have h:=hb<;>(try simp only[wf_preprocess] at h)<;>simp -implicitDefEqProofs (disch:=omega) only[go_sem,hb]<;>(repeat(with_reducible refine And.intro ?_ ?_;focus first|omega|rfl|assumption|exact⟨_,rfl,rfl⟩|(simp;omega)|(simp;done)))
 ·exact CK (aO fun e=>h e.2.2.2)
 ·have hy:nL x=true:=bJ ⟨hf.1,hf.2,hv,h⟩;rw[Qg hy,hy];exact iD _
theorem Bz(x:ah)(n:Nat)(hsz:x.sz<=1048576):aG prog 21 [x.v] (.eG [(true,(dS (lN x).enc n).map .d),(false,[.d (.b (nL x))])]):=by
 rw[Qe];exact MW x n hsz
theorem Wo(b:Bool)(x:ah):(b=true/\iK x=true/\uU b x=x)\/uU b x=eH:=by
 cases b with
 |false=>exact .inr rfl
 |true=>
  cases h:iK x with
  |true=>exact .inl ⟨rfl,rfl,if_pos h⟩
  |false=>exact .inr (if_neg (by rw[h];decide))
theorem acp{x:ah}(h:iK x=true):uU true x=x:=if_pos h
theorem Zn(l:List ah):(dA l).aj.length=l.length:=rfl
theorem Qk:eH.aj.length=0:=rfl
theorem aiY(d:aU):nL (iF d)=dec (0<(iF d).aj.length):=by
 rcases Wo (cZ d) (kV d) with⟨h1,h2,h3⟩|h
 ·have e:iF d=kV d:=h3
  have hl:4<=(kV d).aj.length:=by rw[kV,Zn];simp[gu]
  rw[e,bJ (by omega)];exact bJ ⟨h2,⟨hl,rfl⟩,by rw[zC true h1];exact h1,by rw[zC true h1]⟩
 ·have e:iF d=eH:=h;rw[e,aO (by rw[Qk];omega)]
  exact aO fun q=>by have:=q.2.1.1;rw[Qk] at this;omega
theorem Mt{x:ah}(h:nL x=true):iF (lN x)=x:=by
 obtain⟨h1,h2,h4,h5⟩:=iX h;unfold lN;rw[if_pos h];unfold iF;rw[h4,h5];exact acp h1
end Go.Ab
namespace Go.Proofs.YtnceiannponbjaaGreatDoor.fnTraitText
open Go Go.Ab
theorem acr{bs:List Int}(hB:Bytes bs):aG prog 16 [.c (.d (.sl (bs.map xB)))] (nE (rJ bs)).1.v:=fun S=>by
 refine zcx [.cell 2 48] func16 ntmps16 ?_;simp -implicitDefEqProofs (disch:=omega) only[go_sem];refine bB rfl (Px hB _ _) ?_;simp -implicitDefEqProofs (disch:=omega) only[go_sem];refine bB rfl (Ga hB (rJ bs) 0 1 _ rfl) ?_;simp -implicitDefEqProofs (disch:=omega) only[go_sem]
 first|done|rfl
noncomputable def Td(bs:List Int):ah:=(zZ (iF (nE (rJ bs)).1) (nE (rJ bs)).2).1
theorem af3(bs:List Int):(Td bs).sz<=100000:=by
 have h1:=abT (iF (nE (rJ bs)).1) (nE (rJ bs)).2;have h2:(iF (nE (rJ bs)).1).sz<=11700:=yF _ _;unfold Td;omega
theorem acs{bs:List Int}(hB:Bytes bs):aG prog 22 [.c (.d (.sl (bs.map xB)))] (Td bs).v:=fun S=>by
 have hs:=L9 (rJ bs);have ho:(iF (nE (rJ bs)).1).sz<=11700:=yF _ _;obtain⟨R,hR⟩:∃R,R=Td bs:=⟨_,rfl⟩;rw[<-hR];unfold Td at hR;obtain⟨d,hd⟩:∃d,d=(nE (rJ bs)).1:=⟨_,rfl⟩;obtain⟨c1,hc1⟩:∃c1,c1=(nE (rJ bs)).2:=⟨_,rfl⟩;have q1:=fun(l j:Nat) (S:Store) (hk:aR S (l,j)=some (.box (cur (rJ bs))))=>Ga hB (rJ bs) l j S hk;rw[<-hd] at hs ho;rw[<-hd,<-hc1] at hR q1;have q2:=zX d (by omega);have q3:=fun(l j:Nat) (S:Store) (hk:aR S (l,j)=some (.box (cur c1)))=>PK hB c1 l j S (iF d) hk (by omega);rw[<-hR] at q3;refine zcx [.cell 2 39] func22 ntmps22 ?_;simp -implicitDefEqProofs (disch:=omega) only[go_sem];refine bB rfl (Px hB _ _) ?_;simp -implicitDefEqProofs (disch:=omega) only[go_sem];refine bB rfl (q1 0 1 _ rfl) ?_;simp -implicitDefEqProofs (disch:=omega) only[go_sem];refine au q2 ?_;simp -implicitDefEqProofs (disch:=omega) only[go_sem];refine bB rfl (q3 0 1 _ rfl) ?_;simp -implicitDefEqProofs (disch:=omega) only[go_sem]
 first|done|rfl
theorem law(x0:List Int)(b0:∀x∈x0,0<=x/\x<=255):bD prog 4 [.c (.d (.sl (x0.map xB)))] [] (fun r _=>r=.c (.d (.b true))):=by
 refine zcx [.tmp 2] func4 ntmps4 ?_;simp -implicitDefEqProofs (disch:=omega) only[go_sem];refine au (afR x0) ?_;simp -implicitDefEqProofs (disch:=omega) only[go_sem]
 with_reducible refine aA (fun hb=> ?_) (fun hb=> ?_)<;>have h:=hb<;>(try simp only[wf_preprocess] at h)<;>simp -implicitDefEqProofs (disch:=omega) only[go_sem,hb]<;>(repeat(with_reducible refine And.intro ?_ ?_;focus first|omega|rfl|assumption|exact⟨_,rfl,rfl⟩|(simp;omega)|(simp;done)))
 have SA:Bytes x0:=⟨by omega,b0⟩;have p1:=acr SA;have p2:=acs SA;have hds:=L9 (rJ x0);have hys:=af3 x0;obtain⟨d,hd⟩:∃d,d=(nE (rJ x0)).1:=⟨_,rfl⟩;obtain⟨y,hy⟩:∃y,y=Td x0:=⟨_,rfl⟩;rw[<-hd] at p1 hds;rw[<-hy] at p2 hys;have ho:(iF d).sz<=11700:=yF _ _;have hrt:=aiY d;have e1:=zX d (by omega)
 have e2:aG prog 17 [d.v] (iF d).v:=by
  have h:aG prog 17 [d.v] (.agg ((dS (iF d).enc 0).map .d)):=by rw[kD];exact JK d 0 (by omega)
  have:=aG.less h vL;rw[ah.oq] at this;exact this
 obtain⟨X,hX⟩:∃X,X=iF d:=⟨_,rfl⟩;rw[<-hX] at e1 e2 ho hrt
 have d1:aG prog 21 [X.v] (.eG [(true,(lN X).enc.map .d),(false,[.d (.b (nL X))])]):=
  aG.less (Bz X 0 (by omega)) (LX fun w σ S β vs h=>LG h)
 have d2:aG prog 21 [y.v] (.eG [(true,(lN y).enc.map .d),(false,[.d (.b (nL y))])]):=
  aG.less (Bz y 0 (by omega)) (LX fun w σ S β vs h=>LG h)
 have d3:=Qj y (by omega);have hu:(lN X).sz<=1048576:=Ta (by omega);have hv:(lN y).sz<=1048576:=Ta (by omega);have f1:=zX (lN X) hu
 have f2:aG prog 17 [(lN y).v] (iF (lN y)).v:=by
  have h:aG prog 17 [(lN y).v] (.agg ((dS (iF (lN y)).enc 0).map .d)):=by rw[kD];exact JK (lN y) 0 (by omega)
  have:=aG.less h vL;rw[ah.oq] at this;exact this
 have g1:(iF (lN X)).sz<=11700:=yF _ _;have g2:(iF (lN y)).sz<=11700:=yF _ _;have bX:nL X=true->iF (lN X)=X:=fun h=>Mt h;have bY:nL y=true->iF (lN y)=y:=fun h=>Mt h;obtain⟨u,hu0⟩:∃u,u=lN X:=⟨_,rfl⟩;obtain⟨v,hv0⟩:∃v,v=lN y:=⟨_,rfl⟩;obtain⟨B,hB0⟩:∃B,B=nL X:=⟨_,rfl⟩;obtain⟨C,hC0⟩:∃C,C=nL y:=⟨_,rfl⟩;obtain⟨U,hU0⟩:∃U,U=iF u:=⟨_,rfl⟩;obtain⟨V0,hV0⟩:∃V0,V0=iF v:=⟨_,rfl⟩;rw[<-hu0,<-hB0] at d1;rw[<-hv0,<-hC0] at d2 d3;rw[<-hu0] at f1 g1 hu;rw[<-hv0] at f2 g2 hv;rw[<-hB0,<-hu0,<-hU0] at bX;rw[<-hC0,<-hv0,<-hV0] at bY;rw[<-hU0] at f1 g1;rw[<-hV0] at f2 g2;rw[<-hB0] at hrt;simp only[aU.aB,ak.aB,ay.aB,List.cons_append,List.nil_append,List.map_cons,List.map_nil] at d1 d2 d3;clear hu0 hv0 hB0 hC0 hU0 hV0 hX hd hy;refine au p1 ?_;simp -implicitDefEqProofs (disch:=omega) only[go_sem];refine au e2 ?_;simp -implicitDefEqProofs (disch:=omega) only[go_sem];refine au e1 ?_;simp -implicitDefEqProofs (disch:=omega) only[go_sem];refine au (mM X X (by omega)) ?_;simp -implicitDefEqProofs (disch:=omega) only[go_sem,bJ rfl,Bool.not_true];refine au (oJ d (by omega)) ?_;simp -implicitDefEqProofs (disch:=omega) only[go_sem,bJ rfl,Bool.not_true];refine au (mK d (by omega)) ?_;simp -implicitDefEqProofs (disch:=omega) only[go_sem,bJ rfl,Bool.not_true];refine au d1 ?_;simp -implicitDefEqProofs (disch:=omega) only[go_sem];refine au p2 ?_;simp -implicitDefEqProofs (disch:=omega) only[go_sem];refine au d2 ?_;simp -implicitDefEqProofs (disch:=omega) only[go_sem];refine au d3 ?_
 have hdl:(decide (0<(X.aj.length:Int)))=B:=by
  rw[hrt];by_cases hl:0<X.aj.length
  ·rw[bJ hl];exact decide_eq_true (by omega)
  ·rw[aO hl];exact decide_eq_false (by omega)
 cases B with
 |true=>
  have hUX:=bX rfl;subst hUX;simp -implicitDefEqProofs (disch:=omega) only[go_sem,hdl];refine au f1 ?_;simp -implicitDefEqProofs (disch:=omega) only[go_sem,hdl];refine au (mM U U (by omega)) ?_
  cases C with
  |true=>
   have hVy:=bY rfl;subst hVy;simp -implicitDefEqProofs (disch:=omega) only[go_sem,bJ rfl,hdl];refine au f2 ?_;simp -implicitDefEqProofs (disch:=omega) only[go_sem,bJ rfl,hdl];refine au (mM V0 V0 (by omega)) ?_;simp -implicitDefEqProofs (disch:=omega) only[go_sem,bJ rfl,hdl]
   first|done|rfl
  |false=>
   simp -implicitDefEqProofs (disch:=omega) only[go_sem,bJ rfl,hdl]
   first|done|rfl
 |false=>
  cases C with
  |true=>
   have hVy:=bY rfl;subst hVy;simp -implicitDefEqProofs (disch:=omega) only[go_sem,hdl];refine au f2 ?_;simp -implicitDefEqProofs (disch:=omega) only[go_sem,hdl];refine au (mM V0 V0 (by omega)) ?_;simp -implicitDefEqProofs (disch:=omega) only[go_sem,bJ rfl,hdl]
   first|done|rfl
  |false=>
   simp -implicitDefEqProofs (disch:=omega) only[go_sem,hdl]
   first|done|rfl
end Go.Proofs.YtnceiannponbjaaGreatDoor.fnTraitText
namespace Go.Ab
theorem MX{H:Type}{enc:TypeId×Value->H}{P:Program}{w:World}{base:Nat}{sp:Nat->Bool}{held:Bool}{fuel n:Nat}{t e:TypeId}{k:IntKind}{cs:List Value}{ns:List Int}{p:List MemPlace}
 (ht:P.underlying t=some (.array n e))(he:P.underlying e=some (.int k))(ce:P.cellsOf e=1)(ct:P.cellsOf t=n)
 (h:DataW.trod enc P w base sp held fuel t cs=some (.agg (ns.map fun z=>.lit (.int k z)),p)):cs=ns.map (Value.int k ·):=by
 obtain⟨xs,m,_,ex,hlen,hl,hel⟩:=DataW.trod_array ht h;rw[ct] at hlen;have e3:=DataW.agg.inj (Prod.mk.inj ex).1
 have hns:ns.length=n:=by have:=congrArg List.length e3;simpa [hl] using this
 refine List.ext_getElem (by rw[hlen,List.length_map,hns]) fun i h1 h2=> ?_;have k0:=hel i (by omega);rw[ce,Nat.mul_one] at k0
 have hd:(cs.drop i).take 1=[cs[i]]:=by
  rw[List.drop_eq_getElem_cons h1];rfl
 rw[hd,List.getElem?_eq_getElem (by omega)] at k0;obtain⟨z,a,b,_⟩:=DataW.trod_int he k0
 have e4:(ns.map fun z=>(DataW.lit (Lit.int k z):DataW H))[i]'(by rw[List.length_map];omega)=(xs.map (·.1))[i]'(by rw[List.length_map];omega):=by simp only[e3]
 rw[List.getElem_map,List.getElem_map,b] at e4;simp only[DataW.lit.injEq,Lit.int.injEq,true_and] at e4;rw[List.getElem_map,e4];simpa using a
theorem EG{P:Program}{w:World}{n:String}{g:Nat}{cs:Array Value}(hg:P.globalNamed n=some g)(h:w.var? P n=some cs):∃t fz,w.heap[g]? =some (.cells cs t fz):=by
 unfold World.var? at h;rw[hg] at h;simp only[Option.bind_some] at h;split at h
 ·rename_i c t fz hh;cases h;exact⟨t,fz,hh⟩
 ·cases h
open Go.ChangeShapes Go.RowKit
theorem gES:prog.globalNamed "strconv.ErrSyntax" =some 0:=by kernel_rfl
theorem aeG:(prog.globals[0]?).map (·.type)=some 187:=by kernel_rfl
theorem gER:prog.globalNamed "strconv.ErrRange" =some 1:=by kernel_rfl
theorem aeH:(prog.globals[1]?).map (·.type)=some 187:=by kernel_rfl
theorem cellsE:prog.cellsOf 237=1:=by kernel_rfl
theorem cellsS:prog.cellsOf 9=1:=by kernel_rfl
theorem ac1: "*" ++ "errors.errorString" = "*errors.errorString" :=by decide
theorem af7(u:TypeId)(h:prog.typeName? 3 u=some "*errors.errorString"):u=235:=
 typeName_ptr_named (nm:= "errors.errorString") (by rw[ac1];kernel_rfl) (by kernel_rfl) (by decide) u (by rw[ac1];exact h)
theorem Ql{W:World}{r:List (String×DataW Unit)}(hr:(r.all fun x=>x.2.handleName?.isNone)=true)
 (h0:laidMetH prog (("math/bits.deBruijn32tab",YtnceiannponbjaaGreatDoor.Rows.laid_math_bits_deBruijn32tab)::("math/bits.deBruijn64tab",YtnceiannponbjaaGreatDoor.Rows.laid_math_bits_deBruijn64tab)::("internal/strconv.uint64pow10",YtnceiannponbjaaGreatDoor.Rows.laid_internal_strconv_uint64pow10)::("strconv.ErrRange",YtnceiannponbjaaGreatDoor.Rows.laid_strconv_ErrRange)::("strconv.ErrSyntax",YtnceiannponbjaaGreatDoor.Rows.laid_strconv_ErrSyntax)::r) W):Af W (jd W):=by
 rw[MakeChecks.laidMetH_plain _ _ _ (by
  rw[List.all_cons,List.all_cons,List.all_cons,List.all_cons,List.all_cons,hr];kernel_rfl)] at h0
 have hR:=h0.tail.tail.tail;have hS:=hR.tail;obtain⟨a1,s1,hv1,_,_,_⟩:=laid_sentinel hR gER aeH underlying187 af7 underlying235 underlying237 rfl rfl underlying9 cellsE cellsS;obtain⟨a2,s2,hv2,_,_,_⟩:=laid_sentinel hS gES aeG underlying187 af7 underlying235 underlying237 rfl rfl underlying9 cellsE cellsS;obtain⟨t1,xM,CS⟩:=EG gER hv1;obtain⟨t2,fz2,rW⟩:=EG gES hv2;obtain⟨ps,⟨_,_,_,_,_,_,_,_,_,_,⟨_,_,_,_,_,_,_,_,_,_,⟨g,t,cs,fuel,p,q,hg,ht,hv,hd,_,_⟩,_⟩,_⟩,_,_⟩:=h0
 have hn:prog.globalNamed "internal/strconv.uint64pow10" =some 2:=by kernel_rfl
 obtain rfl:=Option.some.inj (hn.symm.trans hg);obtain rfl:=Option.some.inj ((show(prog.globals[2]?).map (·.type)=some 228 by kernel_rfl).symm.trans ht)
 have hl:(YtnceiannponbjaaGreatDoor.Rows.laid_internal_strconv_uint64pow10:DataW Unit)=.agg (((List.range 20).map fun i=>((10^i:Nat):Int)).map fun z=>.lit (.int .u64 z)):=by kernel_rfl
 rw[hl] at hd;have e:=MX underlying228 underlying214 (by kernel_rfl) (by kernel_rfl) hd;obtain⟨t',fz,hh⟩:=EG hg hv;intro g' p' hm
 have fast:∀{b:Nat}{c:Array Value}{t:TypeId}{fz:Nat×Nat},W.heap[b]? =some (.cells c t fz)->c.size<=jd W b:=fun {b c t fz} hb=>by
  unfold jd;rw[hb];exact Nat.le_refl _
 rcases List.mem_cons.1 hm with hm|hm
 ·cases hm;refine⟨cs,t',fz,hh,?_,fast hh⟩;show cs.toList=_;rw[e,List.map_map];rfl
 rcases List.mem_cons.1 hm with hm|hm
 ·cases hm;exact⟨_,t1,xM,CS,⟨_,_,rfl⟩,fast CS⟩
 ·have hm':=List.eq_of_mem_singleton hm;cases hm';exact⟨_,t2,fz2,rW,⟨_,_,rfl⟩,fast rW⟩
theorem Zo{P:Program}{n:Nat}{t:TypeId}{ds:List D}(h:WT P n t ds):∃m,n=m+1:=by
 cases n with
 |zero=>exact h.elim
 |succ m=>exact⟨m,rfl⟩
theorem af8{P:Program}{n:Nat}{t:TypeId}{k:IntKind}{ds:List D}(ht:P.underlying t=some (.int k))(h:WT P n t ds):∃x,ds=[.i k x]/\(Lit.int k x).wf=true:=by
 obtain⟨m,rfl⟩:=Zo h;simp only[WT,ht] at h;exact h
theorem acu{P:Program}{n:Nat}{t e:TypeId}{ds:List D}(ht:P.underlying t=some (.slice e))(h:WT P n t ds):∃es m,m<n/\ds=[.sl es]/\∀x∈es,WT P m e x:=by
 obtain⟨m,rfl⟩:=Zo h;simp only[WT,ht] at h;obtain⟨es,h1,_,h2⟩:=h;exact⟨es,m,by omega,h1,fun x hx=>(h2 x hx).2⟩
theorem Te{P:Program}{W:TypeId->List D->Prop}(hW:∀t ds,W t ds->yZ ds):∀(fs:List Field)(ds:List D),WTF P W fs ds->yZ ds
 |[],ds,h=>by
  have h:ds=[]:=h;rw[h];exact y5
 |f::fs,ds,h=>by
  obtain⟨a,b,rfl,_,h1,h2⟩:=h;exact QZ.2 ⟨hW _ _ h1,Te hW fs b h2⟩
theorem Qm{P:Program}:∀(n:Nat)(t:TypeId)(ds:List D),WT P n t ds->yZ ds
 |0,t,ds,h=>h.elim
 |n+1,t,ds,h=>by
  simp only[WT] at h;split at h
  ·obtain⟨b,rfl⟩:=h;exact zK.2 ⟨.b _,y5⟩
  ·obtain⟨b,rfl,_⟩:=h;exact zK.2 ⟨.i _ _,y5⟩
  ·obtain⟨l,rfl,hl⟩:=h;exact zK.2 ⟨.s _ hl,y5⟩
  ·obtain⟨es,rfl,hl,hh⟩:=h;exact zK.2 ⟨.sl _ hl fun e he d hd=>Qm n _ e (hh e he).2 d hd,y5⟩
  ·exact Te (Qm n) _ _ h
  ·exact h.elim
end Go.Ab