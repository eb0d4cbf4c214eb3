/-
  SEVERAL TEXTS IN ONE (merged by program): contracts and models, each with its own heading.
-/
import Derived.Test.YtfhpfkaeldgcmaaGreatPartHebS
set_option maxHeartbeats 8000000
open Go.Proofs Go.Proofs.Tryz
set_option linter.unusedSimpArgs false
set_option linter.unusedVariables false
set_option maxRecDepth 4000
namespace Go.Ab
noncomputable def sG(m:aR):Bool:=dec (1<=m.aU.length)&&(dec (m.aU.length<=5)&&nH m.aU m.fBody)
noncomputable def rC(x:aJ):List (List UInt8):=x.bA.map aR.fName
noncomputable def BN(x:aJ):Bool:=validName x.bW&&(dec (x.aU.length<=3)&&(iQ x.aU&&(iH x.aU x.dI&&(!qK x.dI&&(dec (x.dI.aV=2\/x.dI.aV=1)&&(among x.aU (jN [] x.dI)&&(rT x.aU x.dV&&((if x.fI=true then iH x.aU x.bX else dec (Cm x.bX))&&dec (x.bA.length<=6)))))))))
noncomputable def gH(x:aJ):Bool:=BN x&&(x.bA.all sG&&iQ (rC x))
theorem aJ.sum(x:aJ):x.bW.length+(x.aU.length+aQ (x.aU.map encS))+x.dI.sz+(x.dV.length+aQ (x.dV.map aS.enc))+x.bX.sz+(x.bA.length+aQ (x.bA.map aR.enc))<=x.sz:=by
 simp only[aJ.sz,aJ.aj,bG,bC,D.sz,List.length_map,ay.cK];omega
theorem aR.sum(x:aR):x.fName.length+(x.aU.length+aQ (x.aU.map encS))+x.fBody.sz<=x.sz:=by
 simp only[aR.sz,aR.aj,bG,bC,D.sz,List.length_map,aD.cK];omega
theorem Eb{xs:List aR}{t:aR}(h:t∈xs):t.sz<=aQ (xs.map aR.enc):=dO (List.mem_map_of_mem h)
theorem OP(v:List UInt8):∀(us:List ay)(out:List (List UInt8)),v∈us.foldl wX out<->v∈out\/0<us.countP (vZ v)
 |[],out=>by simp
 |u::us,out=>by
  rw[List.foldl_cons,OP v us,List.countP_cons]
  have h:v∈wX out u<->v∈out\/vZ v u=true:=by
   unfold wX vZ;split
   ·rename_i h;simp only[List.mem_append,List.mem_singleton];constructor
    ·rintro(h1|h1)
     ·exact .inl h1
     ·right;simp[h1,h.1]
    ·rintro(h1|h1)
     ·exact .inl h1
     ·right;simp at h1;exact h1.2.symm
   ·rename_i h;constructor
    ·exact .inl
    ·rintro(h1|h1)
     ·exact h1
     ·simp at h1;by_cases e:u.fName∈out
      ·rw[<-h1.2];exact e
      ·exact absurd ⟨h1.1,e⟩ h
  rw[h]
  cases vZ v u<;>simp
theorem YJ(v:List UInt8)(t:ay):occurs v t=dec (v∈jN [] t):=by
 unfold occurs jN nG;rw[nM];exact gG (by rw[OP];simp)
theorem YK{t:ay}(h:qZ t=true):t.aV=1\/t.aV=2\/t.aV=3\/t.aV=4:=by
 have h1:=(gD h).1;rw[Gw,Bool.and_eq_true] at h1;have h2:=gD h1.1;omega
theorem aby{t:ay}(h:qK t=false):t.aV≠3:=by
 rw[EG] at h;intro e;simp[e] at h
theorem mq(x:aJ)(hsz:x.sz<=4194304):aX prog 125 [x.v] (.c (.d (.b (gH x)))):=fun S=>by
 have hs:=aJ.sum x
 have hV:∀s∈x.aU,s.length<=4194304:=fun s h=>by have:=zo h;omega
 have hW:∀b∈x.dV,b.sz<=4194304:=fun b h=>by have:=yx h;omega
 have hM:∀m∈x.bA,m.sz<=4194304:=fun m h=>by have:=Eb h;omega
 have bad:x.bA.all sG=false->V.c (.d (.b false))=V.c (.d (.b (gH x))):=fun h=>bL (by unfold gH;rw[h];simp);have no:BN x=false->V.c (.d (.b false))=V.c (.d (.b (gH x))):=fun h=>bL (by unfold gH;rw[h];rfl)
 have hk:iH x.aU x.dI=true->qK x.dI=false->(x.dI.aV=1\/x.dI.aV=2\/x.dI.aV=4):=fun h1 h2=>by
  unfold iH at h1;rw[Bool.and_eq_true] at h1;have:=YK h1.1;have:=aby h2;omega
 refine zcx [.tmp 2] func125 ntmps125 ?_;simp -implicitDefEqProofs (disch:=omega) only[go_sem]
 repeat' (first
  |with_reducible refine aC (fun hb=> ?_) (fun hb=> ?_)<;>have h:=hb<;>(try simp only[wf_preprocess] at h)<;>simp -implicitDefEqProofs (disch:=omega) only[go_sem,hb]<;>(repeat(with_reducible refine And.intro ?_ ?_;focus first|omega|rfl|assumption|exact⟨_,rfl,rfl⟩|(simp;omega)|(simp;done)))
  |((with_reducible show iI _ _ 77 _ _ _ _);refine aB (gL x.bW (by omega)) ?_;simp -implicitDefEqProofs (disch:=omega) only[go_sem])
  |((with_reducible show iI _ _ 78 _ _ _ _);refine aB (kg x.aU 3 (by omega) hV) ?_;simp -implicitDefEqProofs (disch:=omega) only[go_sem])
  |((with_reducible show iI _ _ 160 _ _ _ _);refine aB (rQ x.dI x.aU (by omega) (by omega)) ?_;simp -implicitDefEqProofs (disch:=omega) only[go_sem])
  |((with_reducible show iI _ _ 161 _ _ _ _);refine aB (DL x.dI (by omega)) ?_;simp -implicitDefEqProofs (disch:=omega) only[go_sem])
  |((with_reducible show iI _ _ 162 _ _ _ _);refine aB (Jp x.dV x.aU (by omega) hW (by omega)) ?_;simp -implicitDefEqProofs (disch:=omega) only[go_sem])
  |(refine no ?_;unfold BN;grind [gD,j6,dD,bJ]))
 all_goals
  have h1:validName x.bW=true:=by assumption
  have h2:(dec ((x.aU.length:Int)<=3)&&iQ x.aU)=true:=by assumption
  have h3:iH x.aU x.dI=true:=by assumption
  have h4:qK x.dI=false:=by assumption
  have h5:¬x.dI.aV=4:=by assumption
  have h6:rT x.aU x.dV=true:=by assumption
 have h7:=hk h3 h4;clear hk;rw[Bool.and_eq_true] at h2;have h8:=gD h2.1
 have pre:BN x=(among x.aU (jN [] x.dI)&&((if x.fI=true then iH x.aU x.bX else dec (Cm x.bX))&&dec (x.bA.length<=6))):=by
  unfold BN;rw[h1,h2.2,h3,h4,h6,dD (show x.aU.length<=3 by omega),dD (show x.dI.aV=2\/x.dI.aV=1 by omega)]
  simp
 clear h1 h2 h3 h4 h5 h6 h7 h8
 refine bN (ι:=Nat) zmx rfl [1,3] (fun i=>[.c (.ptr (0,0) 0),.c (.d (.i .i64 i))]) (fun _=>[.box (x.enc.map .d)]::S)
  (fun i=>i<=x.aU.length/\among (x.aU.drop i) (jN [] x.dI)=among x.aU (jN [] x.dI)) (fun i=>x.aU.length-i) 0 rfl ?_ ⟨Nat.zero_le _,rfl⟩ ?_
 ·simp -implicitDefEqProofs (disch:=omega) only[go_sem]
 rintro i ⟨p1,p2⟩;simp -implicitDefEqProofs (disch:=omega) only[go_sem,encS]
 with_reducible refine aC (fun hb=> ?_) (fun hb=> ?_)<;>have h:=hb<;>(try simp only[wf_preprocess] at h)<;>simp -implicitDefEqProofs (disch:=omega) only[go_sem,hb,encS]<;>(repeat(with_reducible refine And.intro ?_ ?_;focus first|omega|rfl|assumption|exact⟨_,rfl,rfl⟩|(simp;omega)|(simp;done)))
 ·have hi:i<x.aU.length:=by omega
  rw[List.drop_eq_getElem_cons hi] at p2;have p3:among x.aU (jN [] x.dI)=(dec (x.aU[i]∈jN [] x.dI)&&among (x.aU.drop (i+1)) (jN [] x.dI)):=p2.symm
  (repeat(with_reducible refine And.intro ?_ ?_;focus first|omega|rfl|assumption|exact⟨_,rfl,rfl⟩|(simp;omega)|(simp;done)))
  refine aB (zN x.aU[i] x.dI (by omega)) ?_;simp -implicitDefEqProofs (disch:=omega) only[go_sem]<;>(repeat(with_reducible refine And.intro ?_ ?_;focus first|omega|rfl|assumption|exact⟨_,rfl,rfl⟩|(simp;omega)|(simp;done)));rw[YJ]
  with_reducible refine aC (fun hb=> ?_) (fun hb=> ?_)<;>have h:=hb<;>(try simp only[wf_preprocess] at h)<;>simp -implicitDefEqProofs (disch:=omega) only[go_sem,hb]<;>(repeat(with_reducible refine And.intro ?_ ?_;focus first|omega|rfl|assumption|exact⟨_,rfl,rfl⟩|(simp;omega)|(simp;done)))
  ·exact no (by rw[pre,p3,bJ h];rfl)
  ·exact bT (i+1) (by omega) rfl rfl ⟨by omega,by rw[p3,dD h];rfl⟩
 rw[List.drop_of_length_le (by omega)] at p2;have p3:among x.aU (jN [] x.dI)=true:=p2.symm;rw[p3,Bool.true_and] at pre;refine(show Hold ((if x.fI=true then iH x.aU x.bX else dec (Cm x.bX))=true-> ?T)->_ from fun tail=> ?main) ?tp
 case' main=>
  repeat' (first
   |with_reducible refine aC (fun hb=> ?_) (fun hb=> ?_)<;>have h:=hb<;>(try simp only[wf_preprocess] at h)<;>simp -implicitDefEqProofs (disch:=omega) only[go_sem,hb]<;>(repeat(with_reducible refine And.intro ?_ ?_;focus first|omega|rfl|assumption|exact⟨_,rfl,rfl⟩|(simp;omega)|(simp;done)))
   |((with_reducible show iI _ _ 160 _ _ _ _);refine aB (rQ x.bX x.aU (by omega) (by omega)) ?_;simp -implicitDefEqProofs (disch:=omega) only[go_sem])
   |((with_reducible show iI _ _ 164 _ _ _ _);refine aB (LD x.bX) ?_;simp -implicitDefEqProofs (disch:=omega) only[go_sem])
   |(refine no ?_;rw[pre];grind [gD,j6,dD,bJ]))
  all_goals
   have hh:(if x.fI=true then iH x.aU x.bX else dec (Cm x.bX))=true:=by grind [gD,j6,dD,bJ]
   (repeat(with_reducible refine And.intro ?_ ?_;focus first|omega|rfl|assumption|exact⟨_,rfl,rfl⟩|(simp;omega)|(simp;done)))
   refine kN 4 1 [] rfl (by simp) ?_;refine Bt (st':=[.box (x.enc.map .d),.tok 1 []]::S) [1,4,5] [.c (.ptr (0,0) 0),.c (.bV (0,1) []),.c (.d (.i .i64 0))] ?_ ?_ ?_
   ·rfl
   ·first|(simp -implicitDefEqProofs (disch:=omega) only[go_sem];done)|(simp -implicitDefEqProofs (disch:=omega) only[go_sem];simp[*])
   ·exact tail.out hh
 refine⟨fun hh=> ?_⟩;rw[hh,Bool.true_and] at pre;clear p2 p3 p1 hh no
 have aeY:∀i,∀hi:i<x.bA.length,sG x.bA[i]=false->V.c (.d (.b false))=V.c (.d (.b (gH x))):=fun i hi h=>bad (Bool.eq_false_iff.2 fun hx=>by
  rw[List.all_eq_true.1 hx _ (List.getElem_mem hi)] at h;cases h)
 refine bN (ι:=Nat×List (List UInt8)) zmx rfl [1,4,5] (fun y=>[.c (.ptr (0,0) 0),.c (.bV (0,1) (y.2.map encS)),.c (.d (.i .i64 y.1))]) (fun y=>[.box (x.enc.map .d),.tok 1 (y.2.map encS)]::S)
  (fun y=>y.1<=x.bA.length/\y.2=(rC x).take y.1/\∀j,∀hj:j<x.bA.length,j<y.1->sG x.bA[j]=true) (fun y=>x.bA.length-y.1) (0,[]) rfl ?_ ⟨Nat.zero_le _,rfl,fun j _ h=>by simp only at h;omega⟩ ?_
 ·simp -implicitDefEqProofs (disch:=omega) only[go_sem]
 rintro⟨i,names⟩ ⟨p1,p2,p3⟩;simp only at p1 p2 p3
 have pl:names.length<=x.bA.length:=by rw[p2];simp[rC];omega
 simp -implicitDefEqProofs (disch:=omega) only[go_sem]
 with_reducible refine aC (fun hb=> ?_) (fun hb=> ?_)<;>have h:=hb<;>(try simp only[wf_preprocess] at h)<;>simp -implicitDefEqProofs (disch:=omega) only[go_sem,hb]<;>(repeat(with_reducible refine And.intro ?_ ?_;focus first|omega|rfl|assumption|exact⟨_,rfl,rfl⟩|(simp;omega)|(simp;done)))
 ·have hi:i<x.bA.length:=by omega
  have hm:=hM _ (List.getElem_mem hi);have hms:=aR.sum x.bA[i]
  have hmv:∀s∈x.bA[i].aU,s.length<=4194304:=fun s h=>by have:=zo h;omega
  (repeat(with_reducible refine And.intro ?_ ?_;focus first|omega|rfl|assumption|exact⟨_,rfl,rfl⟩|(simp;omega)|(simp;done)))
  with_reducible refine aC (fun hb=> ?_) (fun hb=> ?_)<;>have h:=hb<;>(try simp only[wf_preprocess] at h)<;>simp -implicitDefEqProofs (disch:=omega) only[go_sem,hb]<;>(repeat(with_reducible refine And.intro ?_ ?_;focus first|omega|rfl|assumption|exact⟨_,rfl,rfl⟩|(simp;omega)|(simp;done)))
  ·exact aeY i hi (by unfold sG;rw[bJ (by omega)];rfl)
  (repeat(with_reducible refine And.intro ?_ ?_;focus first|omega|rfl|assumption|exact⟨_,rfl,rfl⟩|(simp;omega)|(simp;done)))
  refine aB (kg x.bA[i].aU 5 (by omega) hmv) ?_;simp -implicitDefEqProofs (disch:=omega) only[go_sem]<;>(repeat(with_reducible refine And.intro ?_ ?_;focus first|omega|rfl|assumption|exact⟨_,rfl,rfl⟩|(simp;omega)|(simp;done)))
  with_reducible refine aC (fun hb=> ?_) (fun hb=> ?_)<;>have h:=hb<;>(try simp only[wf_preprocess] at h)<;>simp -implicitDefEqProofs (disch:=omega) only[go_sem,hb]<;>(repeat(with_reducible refine And.intro ?_ ?_;focus first|omega|rfl|assumption|exact⟨_,rfl,rfl⟩|(simp;omega)|(simp;done)))
  ·refine aeY i hi ?_;unfold sG nH
   have:(dec (x.bA[i].aU.length<=5)&&iQ x.bA[i].aU)=false:=by
    rw[<-h];congr 1;exact gG ⟨fun h=>by omega,fun h=>by omega⟩
   rw[<-Bool.and_assoc (dec (x.bA[i].aU.length<=5)),this];simp
  have k1:=h;rw[Bool.and_eq_true] at k1;have k4:=gD k1.1
  (repeat(with_reducible refine And.intro ?_ ?_;focus first|omega|rfl|assumption|exact⟨_,rfl,rfl⟩|(simp;omega)|(simp;done)))
  refine aB (ER x.bA[i].aU x.bA[i].fBody (by omega) (by omega)) ?_;simp -implicitDefEqProofs (disch:=omega) only[go_sem]<;>(repeat(with_reducible refine And.intro ?_ ?_;focus first|omega|rfl|assumption|exact⟨_,rfl,rfl⟩|(simp;omega)|(simp;done)))
  with_reducible refine aC (fun hb=> ?_) (fun hb=> ?_)<;>have h:=hb<;>(try simp only[wf_preprocess] at h)<;>simp -implicitDefEqProofs (disch:=omega) only[go_sem,hb]<;>(repeat(with_reducible refine And.intro ?_ ?_;focus first|omega|rfl|assumption|exact⟨_,rfl,rfl⟩|(simp;omega)|(simp;done)))
  ·exact aeY i hi (by unfold sG nH;rw[h];simp)
  have k2:=h
  have k3:sG x.bA[i]=true:=by unfold sG nH;rw[k2,k1.2,dD (by omega),dD (by omega)];rfl
  (repeat(with_reducible refine And.intro ?_ ?_;focus first|omega|rfl|assumption|exact⟨_,rfl,rfl⟩|(simp;omega)|(simp;done)))
  rw[show List.map encS names++[[D.s x.bA[i].fName]]=List.map encS (names++[x.bA[i].fName]) by simp[encS]]
  exact fu 2 (by decide) (i+1,names++[x.bA[i].fName]) (by simp only;omega) rfl rfl rfl rfl ⟨by simp only;omega,by simp only;rw[p2,nZ (by simpa [rC] using hi)];simp[rC],fun j hj hji=>by
   simp only at hji;by_cases e:j=i
   ·subst e;exact k3
   ·exact p3 j hj (by omega)⟩
 have hi:i=x.bA.length:=by omega
 have hn:names=rC x:=by rw[p2,List.take_of_length_le (by simp[rC];omega)]
 have hall:x.bA.all sG=true:=List.all_eq_true.2 fun c hc=>by
  obtain⟨j,hj,e⟩:=List.getElem_of_mem hc;rw[<-e];exact p3 j hj (by omega)
 have hnl:∀s∈names,s.length<=4194304:=fun s hm=>by
  rw[hn] at hm;obtain⟨g,hg,e⟩:=List.mem_map.1 hm;have:=hM g hg;have:=aR.sum g;rw[<-e];omega
 have hlen:names.length=x.bA.length:=by rw[hn];simp[rC]
 refine aB (kg names 6 (by omega) hnl) ?_;simp -implicitDefEqProofs (disch:=omega) only[go_sem]<;>(repeat(with_reducible refine And.intro ?_ ?_;focus first|omega|rfl|assumption|exact⟨_,rfl,rfl⟩|(simp;omega)|(simp;done)));refine bL ?_;unfold gH;rw[pre,hall,hn,Bool.true_and];congr 1;rw[<-hn,hlen];exact gG ⟨fun h=>by omega,fun h=>by omega⟩
def zY(P:Program)(N:Nat)(g:St->St):Nat->Code->(Exit->St->Prop)->St->Prop
 |0,c,Q,s=>CW P N c Q (g s)
 |k+1,.seq x y,Q,s=>CW P N x (jG (zY P N g k y Q) Q) s
 |_,_,_,_=>False
theorem aeZ{P:Program}{N:Nat}{g:St->St}{c:Code}{Q:Exit->St->Prop}{s:St}:zY P N g 0 c Q s=CW P N c Q (g s):=by rw[zY]
theorem BO{P:Program}{N k:Nat}{g:St->St}{x y:Code}{Q:Exit->St->Prop}{s:St}:zY P N g (k+1) (.seq x y) Q s=CW P N x (jG (zY P N g k y Q) Q) s:=by rw[zY]
theorem ae0{P:Program}{N:Nat}{g:St->St}{x y:Code}{Q:Exit->St->Prop}{s:St}:zY P N g 5 (.seq x y) Q s=CW P N x (jG (zY P N g 4 y Q) Q) s:=BO
theorem ae1{P:Program}{N:Nat}{g:St->St}{x y:Code}{Q:Exit->St->Prop}{s:St}:zY P N g 4 (.seq x y) Q s=CW P N x (jG (zY P N g 3 y Q) Q) s:=BO
theorem abz{P:Program}{N:Nat}{g:St->St}{x y:Code}{Q:Exit->St->Prop}{s:St}:zY P N g 3 (.seq x y) Q s=CW P N x (jG (zY P N g 2 y Q) Q) s:=BO
theorem ahB{P:Program}{N:Nat}{g:St->St}{x y:Code}{Q:Exit->St->Prop}{s:St}:zY P N g 2 (.seq x y) Q s=CW P N x (jG (zY P N g 1 y Q) Q) s:=BO
theorem ahC{P:Program}{N:Nat}{g:St->St}{x y:Code}{Q:Exit->St->Prop}{s:St}:zY P N g 1 (.seq x y) Q s=CW P N x (jG (zY P N g 0 y Q) Q) s:=BO
attribute [go_sem] aeZ ae0 ae1 abz ahB ahC
def tJ:List UInt8:=[105,110,115,116]
def qy:List UInt8:=[100,101,102,97,117,108,116]
def oP(x:aJ):List (List UInt8):=if x.iP=true then [qy] else []
def nK(x:aJ):List au:=if x.fI=true then [dU x.bX] else []
def oQ(m:aR):au:=eB [bQ m.fName,eB (cZ m.aU),fM m.fBody]
def nV(x:aJ):List au:=[bQ tJ,bQ x.bW,eB (cZ x.aU),dU x.dI,eB (x.dV.map xA),eB (cZ (oP x)),eB (nK x)]
def xU(x:aJ):au:=eB (nV x++x.bA.map oQ)
noncomputable def SE(x:aJ):au:=um (gH x) (xU x)
theorem ahD{x:aJ}(h:x.sz<=1048576):(SE x).sz<=1048576:=Nat.le_trans (IE _ _) (by decide)
theorem ahE(m:aR)(hok:iY m.fBody=true):(oQ m).sz<=27+32*m.sz:=by
 have h1:=GR m.fBody hok;have h3:=aR.sum m;rw[eu] at h3;rw[oQ,jd];simp[dH,jc,jd,kR,pW];omega
theorem SF:∀l:List aR,(∀g∈l,iY g.fBody=true)->dH (l.map oQ)<=27*l.length+32*aQ (l.map aR.enc)
 |[],_=>by simp[dH]
 |c::l,h=>by
  have h1:=ahE c (h c (List.mem_cons_self ..));have h2:=SF l fun g hg=>h g (List.mem_cons_of_mem _ hg);rw[List.map_cons,dH,List.map_cons,aQ,List.length_cons];simp only[aR.sz] at h1;omega
theorem ni{x:aJ}(h:gH x=true):formed x.dI=true/\(∀b∈x.dV,formed b.fType=true)/\(x.fI=true->formed x.bX=true)/\(∀m∈x.bA,iY m.fBody=true):=by
 unfold gH BN at h;simp only[Bool.and_eq_true] at h;obtain⟨⟨_,_,_,h1,_,_,_,h2,h3,_⟩,h4,_⟩:=h;refine⟨tF h1,zX h2,fun ha=> ?_,fun m hm=> ?_⟩
 ·rw[if_pos ha] at h3;exact tF h3
 ·have h5:=List.all_eq_true.1 h4 m hm;unfold sG at h5;simp only[Bool.and_eq_true] at h5;exact Cq h5.2.2
theorem Mg{x:aJ}(hok:gH x=true):(xU x).sz<=96+40*x.sz:=by
 obtain⟨_,_,_,hm⟩:=ni hok;have h1:=SF x.bA hm;have h2:=Nj x.dV;have h3:=aJ.sum x;have h4:=zq x.dI;have h5:=zq x.bX
 have h6:(oP x).length<=1/\((oP x).map List.length).sum<=7:=by unfold oP;split<;>simp[qy]
 have h7:(nK x).length<=1/\dH (nK x)<=(dU x.bX).sz:=by unfold nK;split<;>simp[dH]
 rw[eu] at h3;rw[xU,jd,jO,List.length_append,List.length_map];simp[nV,dH,jc,jd,kR,pW,tJ];omega
theorem ae2(x:aJ)(hv:gH x=true)(hsz:x.sz<=1048576)(ha:x.iP=true)(hs:x.fI=true):aX prog 257 [x.v] (Bv (xU x)).v:=fun S=>by
 have hdz:=aJ.sum x;rw[eu] at hdz;obtain⟨hf1,hf2,hf3,Jq⟩:=ni hv;have hz:=Mg hv
 have hfl:oP x=[qy]:=by unfold oP;rw[ha];rfl
 have has:nK x=[dU x.bX]:=by unfold nK;rw[hs];rfl
 obtain⟨T,hT⟩:∃T:Nat->List (List D),T=fun i=>(nV x++(x.bA.map oQ).take i).map au.enc:=⟨_,rfl⟩
 have hT0:T 0=[[.s tJ,.sl []],[.s x.bW,.sl []],[.s [],.sl ((cZ x.aU).map au.enc)],[.s (dU x.dI).bH,.sl ((dU x.dI).aA.map au.enc)],[.s [],.sl ((x.dV.map xA).map au.enc)],[.s [],.sl ((cZ [qy]).map au.enc)],[.s [],.sl [[.s (dU x.bX).bH,.sl ((dU x.bX).aA.map au.enc)]]]]:=by
  rw[hT];simp only[List.take_zero,List.append_nil,nV,hfl,has,List.map_cons,List.map_nil,eU,jg,au.aj (dU x.dI),au.aj (dU x.bX)]
 have jY:∀i,(T i).length<=i+7:=fun i=>by
  rw[hT];simp only[List.length_map,List.length_append];have:=List.length_take_le i (x.bA.map oQ);simp[nV];omega
 have hTs:∀i (hi:i<x.bA.length),T i++[[.s [],.sl [[.s x.bA[i].fName,.sl []],[.s [],.sl ((cZ x.bA[i].aU).map au.enc)],[.s (fM x.bA[i].fBody).bH,.sl ((fM x.bA[i].fBody).aA.map au.enc)]]]]=T (i+1):=fun i hi=>by
  have:=iN (base:=nV x) (l:=x.bA.map oQ) (i:=i) (by rw[List.length_map];exact hi);rw[List.getElem_map,oQ,lD,iw] at this;simp only[List.map_cons,List.map_nil,eU,jg,au.aj (fM x.bA[i].fBody)] at this;rw[hT];exact this
 have hTr:∀i,∀r∈T i,r.length=2:=fun i=>by rw[hT];exact jf
 have hTe:T x.bA.length=(xU x).aA.map au.enc:=by
  rw[hT];simp only
  rw[List.take_of_length_le (by simp)];rfl
 clear hT;refine zcx [.cell 2 202] func257 ntmps257 ?_;simp -implicitDefEqProofs (disch:=omega) only[go_sem];refine aB (mq x (by omega)) ?_;simp -implicitDefEqProofs (disch:=omega) only[go_sem,hv,ha,hs]
 (repeat(with_reducible refine And.intro ?_ ?_;focus first|omega|rfl|assumption|exact⟨_,rfl,rfl⟩|(simp;omega)|(simp;done)))
 refine aB (jX x.bX (by omega)) ?_;simp -implicitDefEqProofs (disch:=omega) only[go_sem]
 (repeat(with_reducible refine And.intro ?_ ?_;focus first|omega|rfl|assumption|exact⟨_,rfl,rfl⟩|(simp;omega)|(simp;done)))
 refine aB (lg _ (by simp) (by simp)) ?_;simp -implicitDefEqProofs (disch:=omega) only[go_sem]
 (repeat(with_reducible refine And.intro ?_ ?_;focus first|omega|rfl|assumption|exact⟨_,rfl,rfl⟩|(simp;omega)|(simp;done)))
 refine aB (bS _) ?_;simp -implicitDefEqProofs (disch:=omega) only[go_sem];refine aB (bS _) ?_;simp -implicitDefEqProofs (disch:=omega) only[go_sem];refine aB (dZ x.aU (by omega)) ?_;simp -implicitDefEqProofs (disch:=omega) only[go_sem];refine aB (jX x.dI (by omega)) ?_;simp -implicitDefEqProofs (disch:=omega) only[go_sem];refine aB (uD x.dV (by omega) (fun b hb=>by have:=yx hb;omega)) ?_;simp -implicitDefEqProofs (disch:=omega) only[go_sem];refine aB (dZ [qy] (by simp)) ?_;simp -implicitDefEqProofs (disch:=omega) only[go_sem];have hE:=fun cB Ω=>jK (T 0) (hTr 0) (by have:=jY 0;omega) cB Ω;simp only[hT0] at hE;refine cu [false] rfl (hE _ _) ?_;simp -implicitDefEqProofs (disch:=omega) only[go_sem]
 refine bN (ι:=Nat) zmx rfl [1,2,5,6] (fun i=>[.c (.ptr (0,0) 0),.c (.ptr (0,1) 0),.c (.ptr (0,6) 0),.c (.d (.i .i64 i))])
  (fun i=>[.box [.d (.s x.bW),.d (.sl (x.aU.map encS)),.d (.i .i64 x.dI.aV),.d (.s x.dI.fName),.d (.sl (x.dI.fArgs.map ay.enc)),.d (.sl (x.dV.map aS.enc)),.d (.b true),.d (.b true),.d (.i .i64 x.bX.aV),.d (.s x.bX.fName),.d (.sl (x.bX.fArgs.map ay.enc)),.d (.sl (x.bA.map aR.enc))],.box [.d (.s []),.bM []],.tok 1 [[.s qy]],.box [.d (.s []),.d (.sl [[.s (dU x.bX).bH,.sl ((dU x.bX).aA.map au.enc)]])],.box [.d (.s []),.bV (0,5) (T 0)],.tok 2 (T i),.box [.d (.s []),.bV (0,5) (T i)]]::S)
  (fun i=>i<=x.bA.length) (fun i=>x.bA.length-i) 0 rfl (by simp only[hT0]<;>(try rfl)) (Nat.zero_le _) ?_
 intro i hi;have hl:=jY i;simp -implicitDefEqProofs (disch:=omega) only[go_sem]
 with_reducible refine aC (fun hb=> ?_) (fun hb=> ?_)<;>have h:=hb<;>(try simp only[wf_preprocess] at h)<;>simp -implicitDefEqProofs (disch:=omega) only[go_sem,hb]<;>(repeat(with_reducible refine And.intro ?_ ?_;focus first|omega|rfl|assumption|exact⟨_,rfl,rfl⟩|(simp;omega)|(simp;done)))
 ·have hi':i<x.bA.length:=by omega
  have hm:=List.getElem_mem hi';have hcz:=Eb hm;have hce:=aR.sum x.bA[i];rw[eu] at hce;have hst:=hTs i hi'
  (repeat(with_reducible refine And.intro ?_ ?_;focus first|omega|rfl|assumption|exact⟨_,rfl,rfl⟩|(simp;omega)|(simp;done)))
  refine aB (bS _) ?_;simp -implicitDefEqProofs (disch:=omega) only[go_sem];refine aB (dZ x.bA[i].aU (by omega)) ?_;simp -implicitDefEqProofs (disch:=omega) only[go_sem];refine aB (rA x.bA[i].fBody (Jq _ hm) (by omega)) ?_;simp -implicitDefEqProofs (disch:=omega) only[go_sem];refine aB (lg _ (by simp) (by simp)) ?_;simp -implicitDefEqProofs (disch:=omega) only[go_sem]
  (repeat(with_reducible refine And.intro ?_ ?_;focus first|omega|rfl|assumption|exact⟨_,rfl,rfl⟩|(simp;omega)|(simp;done)))
  rw[hst];exact fu 7 (by decide) (i+1) (by omega) rfl rfl rfl rfl (by omega)
 ·have hi':i=x.bA.length:=by omega
  subst hi';rw[hTe];refine aB (pY true (xU x) (by omega)) ?_;simp -implicitDefEqProofs (disch:=omega) only[go_sem];rfl
theorem ae3(x:aJ)(hv:gH x=true)(hsz:x.sz<=1048576)(ha:x.iP=true)(hs:x.fI=false):aX prog 257 [x.v] (Bv (xU x)).v:=fun S=>by
 have hdz:=aJ.sum x;rw[eu] at hdz;obtain⟨hf1,hf2,hf3,Jq⟩:=ni hv;have hz:=Mg hv
 have hfl:oP x=[qy]:=by unfold oP;rw[ha];rfl
 have has:nK x=[]:=by unfold nK;rw[hs];rfl
 obtain⟨T,hT⟩:∃T:Nat->List (List D),T=fun i=>(nV x++(x.bA.map oQ).take i).map au.enc:=⟨_,rfl⟩
 have hT0:T 0=[[.s tJ,.sl []],[.s x.bW,.sl []],[.s [],.sl ((cZ x.aU).map au.enc)],[.s (dU x.dI).bH,.sl ((dU x.dI).aA.map au.enc)],[.s [],.sl ((x.dV.map xA).map au.enc)],[.s [],.sl ((cZ [qy]).map au.enc)],[.s [],.sl []]]:=by
  rw[hT];simp only[List.take_zero,List.append_nil,nV,hfl,has,List.map_cons,List.map_nil,eU,jg,au.aj (dU x.dI),au.aj (dU x.bX)]
 have jY:∀i,(T i).length<=i+7:=fun i=>by
  rw[hT];simp only[List.length_map,List.length_append];have:=List.length_take_le i (x.bA.map oQ);simp[nV];omega
 have hTs:∀i (hi:i<x.bA.length),T i++[[.s [],.sl [[.s x.bA[i].fName,.sl []],[.s [],.sl ((cZ x.bA[i].aU).map au.enc)],[.s (fM x.bA[i].fBody).bH,.sl ((fM x.bA[i].fBody).aA.map au.enc)]]]]=T (i+1):=fun i hi=>by
  have:=iN (base:=nV x) (l:=x.bA.map oQ) (i:=i) (by rw[List.length_map];exact hi);rw[List.getElem_map,oQ,lD,iw] at this;simp only[List.map_cons,List.map_nil,eU,jg,au.aj (fM x.bA[i].fBody)] at this;rw[hT];exact this
 have hTr:∀i,∀r∈T i,r.length=2:=fun i=>by rw[hT];exact jf
 have hTe:T x.bA.length=(xU x).aA.map au.enc:=by
  rw[hT];simp only
  rw[List.take_of_length_le (by simp)];rfl
 clear hT;refine zcx [.cell 2 202] func257 ntmps257 ?_;simp -implicitDefEqProofs (disch:=omega) only[go_sem];refine aB (mq x (by omega)) ?_;simp -implicitDefEqProofs (disch:=omega) only[go_sem,hv,ha,hs]
 (repeat(with_reducible refine And.intro ?_ ?_;focus first|omega|rfl|assumption|exact⟨_,rfl,rfl⟩|(simp;omega)|(simp;done)))
 refine aB (bS _) ?_;simp -implicitDefEqProofs (disch:=omega) only[go_sem];refine aB (bS _) ?_;simp -implicitDefEqProofs (disch:=omega) only[go_sem];refine aB (dZ x.aU (by omega)) ?_;simp -implicitDefEqProofs (disch:=omega) only[go_sem];refine aB (jX x.dI (by omega)) ?_;simp -implicitDefEqProofs (disch:=omega) only[go_sem];refine aB (uD x.dV (by omega) (fun b hb=>by have:=yx hb;omega)) ?_;simp -implicitDefEqProofs (disch:=omega) only[go_sem];refine aB (dZ [qy] (by simp)) ?_;simp -implicitDefEqProofs (disch:=omega) only[go_sem];have hE:=fun cB Ω=>jK (T 0) (hTr 0) (by have:=jY 0;omega) cB Ω;simp only[hT0] at hE;refine cu [false] rfl (hE _ _) ?_;simp -implicitDefEqProofs (disch:=omega) only[go_sem]
 refine bN (ι:=Nat) zmx rfl [1,2,5,6] (fun i=>[.c (.ptr (0,0) 0),.c (.ptr (0,1) 0),.c (.ptr (0,6) 0),.c (.d (.i .i64 i))])
  (fun i=>[.box [.d (.s x.bW),.d (.sl (x.aU.map encS)),.d (.i .i64 x.dI.aV),.d (.s x.dI.fName),.d (.sl (x.dI.fArgs.map ay.enc)),.d (.sl (x.dV.map aS.enc)),.d (.b true),.d (.b false),.d (.i .i64 x.bX.aV),.d (.s x.bX.fName),.d (.sl (x.bX.fArgs.map ay.enc)),.d (.sl (x.bA.map aR.enc))],.box [.d (.s []),.bM []],.tok 1 [[.s qy]],.box [.d (.s []),.bM []],.box [.d (.s []),.bV (0,5) (T 0)],.tok 2 (T i),.box [.d (.s []),.bV (0,5) (T i)]]::S)
  (fun i=>i<=x.bA.length) (fun i=>x.bA.length-i) 0 rfl (by simp only[hT0]<;>(try rfl)) (Nat.zero_le _) ?_
 intro i hi;have hl:=jY i;simp -implicitDefEqProofs (disch:=omega) only[go_sem]
 with_reducible refine aC (fun hb=> ?_) (fun hb=> ?_)<;>have h:=hb<;>(try simp only[wf_preprocess] at h)<;>simp -implicitDefEqProofs (disch:=omega) only[go_sem,hb]<;>(repeat(with_reducible refine And.intro ?_ ?_;focus first|omega|rfl|assumption|exact⟨_,rfl,rfl⟩|(simp;omega)|(simp;done)))
 ·have hi':i<x.bA.length:=by omega
  have hm:=List.getElem_mem hi';have hcz:=Eb hm;have hce:=aR.sum x.bA[i];rw[eu] at hce;have hst:=hTs i hi'
  (repeat(with_reducible refine And.intro ?_ ?_;focus first|omega|rfl|assumption|exact⟨_,rfl,rfl⟩|(simp;omega)|(simp;done)))
  refine aB (bS _) ?_;simp -implicitDefEqProofs (disch:=omega) only[go_sem];refine aB (dZ x.bA[i].aU (by omega)) ?_;simp -implicitDefEqProofs (disch:=omega) only[go_sem];refine aB (rA x.bA[i].fBody (Jq _ hm) (by omega)) ?_;simp -implicitDefEqProofs (disch:=omega) only[go_sem];refine aB (lg _ (by simp) (by simp)) ?_;simp -implicitDefEqProofs (disch:=omega) only[go_sem]
  (repeat(with_reducible refine And.intro ?_ ?_;focus first|omega|rfl|assumption|exact⟨_,rfl,rfl⟩|(simp;omega)|(simp;done)))
  rw[hst];exact fu 7 (by decide) (i+1) (by omega) rfl rfl rfl rfl (by omega)
 ·have hi':i=x.bA.length:=by omega
  subst hi';rw[hTe];refine aB (pY true (xU x) (by omega)) ?_;simp -implicitDefEqProofs (disch:=omega) only[go_sem];rfl
theorem ae4(x:aJ)(hv:gH x=true)(hsz:x.sz<=1048576)(ha:x.iP=false)(hs:x.fI=true):aX prog 257 [x.v] (Bv (xU x)).v:=fun S=>by
 have hdz:=aJ.sum x;rw[eu] at hdz;obtain⟨hf1,hf2,hf3,Jq⟩:=ni hv;have hz:=Mg hv
 have hfl:oP x=[]:=by unfold oP;rw[ha];rfl
 have has:nK x=[dU x.bX]:=by unfold nK;rw[hs];rfl
 obtain⟨T,hT⟩:∃T:Nat->List (List D),T=fun i=>(nV x++(x.bA.map oQ).take i).map au.enc:=⟨_,rfl⟩
 have hT0:T 0=[[.s tJ,.sl []],[.s x.bW,.sl []],[.s [],.sl ((cZ x.aU).map au.enc)],[.s (dU x.dI).bH,.sl ((dU x.dI).aA.map au.enc)],[.s [],.sl ((x.dV.map xA).map au.enc)],[.s [],.sl ((cZ []).map au.enc)],[.s [],.sl [[.s (dU x.bX).bH,.sl ((dU x.bX).aA.map au.enc)]]]]:=by
  rw[hT];simp only[List.take_zero,List.append_nil,nV,hfl,has,List.map_cons,List.map_nil,eU,jg,au.aj (dU x.dI),au.aj (dU x.bX)]
 have jY:∀i,(T i).length<=i+7:=fun i=>by
  rw[hT];simp only[List.length_map,List.length_append];have:=List.length_take_le i (x.bA.map oQ);simp[nV];omega
 have hTs:∀i (hi:i<x.bA.length),T i++[[.s [],.sl [[.s x.bA[i].fName,.sl []],[.s [],.sl ((cZ x.bA[i].aU).map au.enc)],[.s (fM x.bA[i].fBody).bH,.sl ((fM x.bA[i].fBody).aA.map au.enc)]]]]=T (i+1):=fun i hi=>by
  have:=iN (base:=nV x) (l:=x.bA.map oQ) (i:=i) (by rw[List.length_map];exact hi);rw[List.getElem_map,oQ,lD,iw] at this;simp only[List.map_cons,List.map_nil,eU,jg,au.aj (fM x.bA[i].fBody)] at this;rw[hT];exact this
 have hTr:∀i,∀r∈T i,r.length=2:=fun i=>by rw[hT];exact jf
 have hTe:T x.bA.length=(xU x).aA.map au.enc:=by
  rw[hT];simp only
  rw[List.take_of_length_le (by simp)];rfl
 clear hT;refine zcx [.cell 2 202] func257 ntmps257 ?_;simp -implicitDefEqProofs (disch:=omega) only[go_sem];refine aB (mq x (by omega)) ?_;simp -implicitDefEqProofs (disch:=omega) only[go_sem,hv,ha,hs]
 (repeat(with_reducible refine And.intro ?_ ?_;focus first|omega|rfl|assumption|exact⟨_,rfl,rfl⟩|(simp;omega)|(simp;done)))
 refine aB (jX x.bX (by omega)) ?_;simp -implicitDefEqProofs (disch:=omega) only[go_sem]
 (repeat(with_reducible refine And.intro ?_ ?_;focus first|omega|rfl|assumption|exact⟨_,rfl,rfl⟩|(simp;omega)|(simp;done)))
 refine aB (lg _ (by simp) (by simp)) ?_;simp -implicitDefEqProofs (disch:=omega) only[go_sem]
 (repeat(with_reducible refine And.intro ?_ ?_;focus first|omega|rfl|assumption|exact⟨_,rfl,rfl⟩|(simp;omega)|(simp;done)))
 refine aB (bS _) ?_;simp -implicitDefEqProofs (disch:=omega) only[go_sem];refine aB (bS _) ?_;simp -implicitDefEqProofs (disch:=omega) only[go_sem];refine aB (dZ x.aU (by omega)) ?_;simp -implicitDefEqProofs (disch:=omega) only[go_sem];refine aB (jX x.dI (by omega)) ?_;simp -implicitDefEqProofs (disch:=omega) only[go_sem];refine aB (uD x.dV (by omega) (fun b hb=>by have:=yx hb;omega)) ?_;simp -implicitDefEqProofs (disch:=omega) only[go_sem];refine aB (dZ [] (by simp)) ?_;simp -implicitDefEqProofs (disch:=omega) only[go_sem];have hE:=fun cB Ω=>jK (T 0) (hTr 0) (by have:=jY 0;omega) cB Ω;simp only[hT0] at hE;refine cu [false] rfl (hE _ _) ?_;simp -implicitDefEqProofs (disch:=omega) only[go_sem]
 refine bN (ι:=Nat) zmx rfl [1,2,5,6] (fun i=>[.c (.ptr (0,0) 0),.c (.ptr (0,1) 0),.c (.ptr (0,5) 0),.c (.d (.i .i64 i))])
  (fun i=>[.box [.d (.s x.bW),.d (.sl (x.aU.map encS)),.d (.i .i64 x.dI.aV),.d (.s x.dI.fName),.d (.sl (x.dI.fArgs.map ay.enc)),.d (.sl (x.dV.map aS.enc)),.d (.b false),.d (.b true),.d (.i .i64 x.bX.aV),.d (.s x.bX.fName),.d (.sl (x.bX.fArgs.map ay.enc)),.d (.sl (x.bA.map aR.enc))],.box [.d (.s []),.bM []],.box [.d (.s []),.d (.sl [[.s (dU x.bX).bH,.sl ((dU x.bX).aA.map au.enc)]])],.box [.d (.s []),.bV (0,4) (T 0)],.tok 2 (T i),.box [.d (.s []),.bV (0,4) (T i)]]::S)
  (fun i=>i<=x.bA.length) (fun i=>x.bA.length-i) 0 rfl (by simp only[hT0]<;>(try rfl)) (Nat.zero_le _) ?_
 intro i hi;have hl:=jY i;simp -implicitDefEqProofs (disch:=omega) only[go_sem]
 with_reducible refine aC (fun hb=> ?_) (fun hb=> ?_)<;>have h:=hb<;>(try simp only[wf_preprocess] at h)<;>simp -implicitDefEqProofs (disch:=omega) only[go_sem,hb]<;>(repeat(with_reducible refine And.intro ?_ ?_;focus first|omega|rfl|assumption|exact⟨_,rfl,rfl⟩|(simp;omega)|(simp;done)))
 ·have hi':i<x.bA.length:=by omega
  have hm:=List.getElem_mem hi';have hcz:=Eb hm;have hce:=aR.sum x.bA[i];rw[eu] at hce;have hst:=hTs i hi'
  (repeat(with_reducible refine And.intro ?_ ?_;focus first|omega|rfl|assumption|exact⟨_,rfl,rfl⟩|(simp;omega)|(simp;done)))
  refine aB (bS _) ?_;simp -implicitDefEqProofs (disch:=omega) only[go_sem];refine aB (dZ x.bA[i].aU (by omega)) ?_;simp -implicitDefEqProofs (disch:=omega) only[go_sem];refine aB (rA x.bA[i].fBody (Jq _ hm) (by omega)) ?_;simp -implicitDefEqProofs (disch:=omega) only[go_sem];refine aB (lg _ (by simp) (by simp)) ?_;simp -implicitDefEqProofs (disch:=omega) only[go_sem]
  (repeat(with_reducible refine And.intro ?_ ?_;focus first|omega|rfl|assumption|exact⟨_,rfl,rfl⟩|(simp;omega)|(simp;done)))
  rw[hst];exact fu 6 (by decide) (i+1) (by omega) rfl rfl rfl rfl (by omega)
 ·have hi':i=x.bA.length:=by omega
  subst hi';rw[hTe];refine aB (pY true (xU x) (by omega)) ?_;simp -implicitDefEqProofs (disch:=omega) only[go_sem];rfl
theorem ae5(x:aJ)(hv:gH x=true)(hsz:x.sz<=1048576)(ha:x.iP=false)(hs:x.fI=false):aX prog 257 [x.v] (Bv (xU x)).v:=fun S=>by
 have hdz:=aJ.sum x;rw[eu] at hdz;obtain⟨hf1,hf2,hf3,Jq⟩:=ni hv;have hz:=Mg hv
 have hfl:oP x=[]:=by unfold oP;rw[ha];rfl
 have has:nK x=[]:=by unfold nK;rw[hs];rfl
 obtain⟨T,hT⟩:∃T:Nat->List (List D),T=fun i=>(nV x++(x.bA.map oQ).take i).map au.enc:=⟨_,rfl⟩
 have hT0:T 0=[[.s tJ,.sl []],[.s x.bW,.sl []],[.s [],.sl ((cZ x.aU).map au.enc)],[.s (dU x.dI).bH,.sl ((dU x.dI).aA.map au.enc)],[.s [],.sl ((x.dV.map xA).map au.enc)],[.s [],.sl ((cZ []).map au.enc)],[.s [],.sl []]]:=by
  rw[hT];simp only[List.take_zero,List.append_nil,nV,hfl,has,List.map_cons,List.map_nil,eU,jg,au.aj (dU x.dI),au.aj (dU x.bX)]
 have jY:∀i,(T i).length<=i+7:=fun i=>by
  rw[hT];simp only[List.length_map,List.length_append];have:=List.length_take_le i (x.bA.map oQ);simp[nV];omega
 have hTs:∀i (hi:i<x.bA.length),T i++[[.s [],.sl [[.s x.bA[i].fName,.sl []],[.s [],.sl ((cZ x.bA[i].aU).map au.enc)],[.s (fM x.bA[i].fBody).bH,.sl ((fM x.bA[i].fBody).aA.map au.enc)]]]]=T (i+1):=fun i hi=>by
  have:=iN (base:=nV x) (l:=x.bA.map oQ) (i:=i) (by rw[List.length_map];exact hi);rw[List.getElem_map,oQ,lD,iw] at this;simp only[List.map_cons,List.map_nil,eU,jg,au.aj (fM x.bA[i].fBody)] at this;rw[hT];exact this
 have hTr:∀i,∀r∈T i,r.length=2:=fun i=>by rw[hT];exact jf
 have hTe:T x.bA.length=(xU x).aA.map au.enc:=by
  rw[hT];simp only
  rw[List.take_of_length_le (by simp)];rfl
 clear hT;refine zcx [.cell 2 202] func257 ntmps257 ?_;simp -implicitDefEqProofs (disch:=omega) only[go_sem];refine aB (mq x (by omega)) ?_;simp -implicitDefEqProofs (disch:=omega) only[go_sem,hv,ha,hs]
 (repeat(with_reducible refine And.intro ?_ ?_;focus first|omega|rfl|assumption|exact⟨_,rfl,rfl⟩|(simp;omega)|(simp;done)))
 refine aB (bS _) ?_;simp -implicitDefEqProofs (disch:=omega) only[go_sem];refine aB (bS _) ?_;simp -implicitDefEqProofs (disch:=omega) only[go_sem];refine aB (dZ x.aU (by omega)) ?_;simp -implicitDefEqProofs (disch:=omega) only[go_sem];refine aB (jX x.dI (by omega)) ?_;simp -implicitDefEqProofs (disch:=omega) only[go_sem];refine aB (uD x.dV (by omega) (fun b hb=>by have:=yx hb;omega)) ?_;simp -implicitDefEqProofs (disch:=omega) only[go_sem];refine aB (dZ [] (by simp)) ?_;simp -implicitDefEqProofs (disch:=omega) only[go_sem];have hE:=fun cB Ω=>jK (T 0) (hTr 0) (by have:=jY 0;omega) cB Ω;simp only[hT0] at hE;refine cu [false] rfl (hE _ _) ?_;simp -implicitDefEqProofs (disch:=omega) only[go_sem]
 refine bN (ι:=Nat) zmx rfl [1,2,5,6] (fun i=>[.c (.ptr (0,0) 0),.c (.ptr (0,1) 0),.c (.ptr (0,5) 0),.c (.d (.i .i64 i))])
  (fun i=>[.box [.d (.s x.bW),.d (.sl (x.aU.map encS)),.d (.i .i64 x.dI.aV),.d (.s x.dI.fName),.d (.sl (x.dI.fArgs.map ay.enc)),.d (.sl (x.dV.map aS.enc)),.d (.b false),.d (.b false),.d (.i .i64 x.bX.aV),.d (.s x.bX.fName),.d (.sl (x.bX.fArgs.map ay.enc)),.d (.sl (x.bA.map aR.enc))],.box [.d (.s []),.bM []],.box [.d (.s []),.bM []],.box [.d (.s []),.bV (0,4) (T 0)],.tok 2 (T i),.box [.d (.s []),.bV (0,4) (T i)]]::S)
  (fun i=>i<=x.bA.length) (fun i=>x.bA.length-i) 0 rfl (by simp only[hT0]<;>(try rfl)) (Nat.zero_le _) ?_
 intro i hi;have hl:=jY i;simp -implicitDefEqProofs (disch:=omega) only[go_sem]
 with_reducible refine aC (fun hb=> ?_) (fun hb=> ?_)<;>have h:=hb<;>(try simp only[wf_preprocess] at h)<;>simp -implicitDefEqProofs (disch:=omega) only[go_sem,hb]<;>(repeat(with_reducible refine And.intro ?_ ?_;focus first|omega|rfl|assumption|exact⟨_,rfl,rfl⟩|(simp;omega)|(simp;done)))
 ·have hi':i<x.bA.length:=by omega
  have hm:=List.getElem_mem hi';have hcz:=Eb hm;have hce:=aR.sum x.bA[i];rw[eu] at hce;have hst:=hTs i hi'
  (repeat(with_reducible refine And.intro ?_ ?_;focus first|omega|rfl|assumption|exact⟨_,rfl,rfl⟩|(simp;omega)|(simp;done)))
  refine aB (bS _) ?_;simp -implicitDefEqProofs (disch:=omega) only[go_sem];refine aB (dZ x.bA[i].aU (by omega)) ?_;simp -implicitDefEqProofs (disch:=omega) only[go_sem];refine aB (rA x.bA[i].fBody (Jq _ hm) (by omega)) ?_;simp -implicitDefEqProofs (disch:=omega) only[go_sem];refine aB (lg _ (by simp) (by simp)) ?_;simp -implicitDefEqProofs (disch:=omega) only[go_sem]
  (repeat(with_reducible refine And.intro ?_ ?_;focus first|omega|rfl|assumption|exact⟨_,rfl,rfl⟩|(simp;omega)|(simp;done)))
  rw[hst];exact fu 6 (by decide) (i+1) (by omega) rfl rfl rfl rfl (by omega)
 ·have hi':i=x.bA.length:=by omega
  subst hi';rw[hTe];refine aB (pY true (xU x) (by omega)) ?_;simp -implicitDefEqProofs (disch:=omega) only[go_sem];rfl
theorem ae6(x:aJ)(hsz:x.sz<=1048576):aX prog 257 [x.v] (SE x).v:=by
 unfold SE
 cases hv:gH x with
 |false=>
  rw[um];refine aX.less (fun S=> ?_) (DU [] []);refine zcx [.cell 2 202] func257 ntmps257 ?_;simp -implicitDefEqProofs (disch:=omega) only[go_sem];refine aB (mq x (by omega)) ?_;simp -implicitDefEqProofs (disch:=omega) only[go_sem,hv]
 |true=>
  rw[um]
  cases ha:x.iP with
  |true=>
   cases hs:x.fI with
   |true=>exact ae2 x hv hsz ha hs
   |false=>exact ae3 x hv hsz ha hs
  |false=>
   cases hs:x.fI with
   |true=>exact ae4 x hv hsz ha hs
   |false=>exact ae5 x hv hsz ha hs
end Go.Ab