/-
  SEVERAL TEXTS IN ONE (merged by program): contracts and models, each with its own heading.
-/
import Derived.Test.YtfhpfkaeldgcmaaGreatPartHdbS
set_option maxHeartbeats 8000000
open Go.Proofs Go.Proofs.Tryz
set_option linter.unusedSimpArgs false
set_option linter.unusedVariables false
set_option maxRecDepth 4000
namespace Go.Ab
noncomputable def rW(m:aN):Bool:=dec (1<=m.aO.length)&&(dec (m.aO.length<=5)&&nA m.aO m.fBody)
noncomputable def qO(x:aH):List (List UInt8):=x.aQ.map aN.fName
noncomputable def Ba(x:aH):Bool:=validName x.bU&&(dec (x.aO.length<=3)&&(iP x.aO&&(iI x.aO x.dA&&(!qy x.dA&&(dec (x.dA.aR=2\/x.dA.aR=1)&&(among x.aO (jO [] x.dA)&&(rC x.aO x.dO&&((if x.fB=true then iI x.aO x.bV else dec (Bz x.bV))&&dec (x.aQ.length<=6)))))))))
noncomputable def gH(x:aH):Bool:=Ba x&&(x.aQ.all rW&&iP (qO x))
theorem aH.sum(x:aH):x.bU.length+(x.aO.length+aI (x.aO.map encS))+x.dA.sz+(x.dO.length+aI (x.dO.map aM.enc))+x.bV.sz+(x.aQ.length+aI (x.aQ.map aN.enc))<=x.sz:=by
 simp only[aH.sz,aH.aj,bF,bL,D.sz,List.length_map,ay.cK];omega
theorem aN.sum(x:aN):x.fName.length+(x.aO.length+aI (x.aO.map encS))+x.fBody.sz<=x.sz:=by
 simp only[aN.sz,aN.aj,bF,bL,D.sz,List.length_map,aC.cK];omega
theorem Dl{xs:List aN}{t:aN}(h:t∈xs):t.sz<=aI (xs.map aN.enc):=dV (List.mem_map_of_mem h)
theorem NQ(v:List UInt8):∀(us:List ay)(out:List (List UInt8)),v∈us.foldl wz out<->v∈out\/0<us.countP (Kn v)
 |[],out=>by simp
 |u::us,out=>by
  rw[List.foldl_cons,NQ v us,List.countP_cons]
  have h:v∈wz out u<->v∈out\/Kn v u=true:=by
   unfold wz Kn;split
   ·rename_i h;simp only[List.mem_append,List.mem_singleton];constructor
    ·rintro(h1|h1)
     ·exact .inl h1
     ·right;simp[h1,h.1]
    ·rintro(h1|h1)
     ·exact .inl h1
     ·right;simp at h1;exact h1.2.symm
   ·rename_i h;constructor
    ·exact .inl
    ·rintro(h1|h1)
     ·exact h1
     ·simp at h1;by_cases e:u.fName∈out
      ·rw[<-h1.2];exact e
      ·exact absurd ⟨h1.1,e⟩ h
  rw[h]
  cases Kn v u<;>simp
theorem XD(v:List UInt8)(t:ay):occurs v t=dec (v∈jO [] t):=by
 unfold occurs jO nY;rw[qY];exact kP (by rw[NQ];simp)
theorem XE{t:ay}(h:qL t=true):t.aR=1\/t.aR=2\/t.aR=3\/t.aR=4:=by
 have h1:=(gL h).1;rw[FJ,Bool.and_eq_true] at h1;have h2:=gL h1.1;omega
theorem aau{t:ay}(h:qy t=false):t.aR≠3:=by
 rw[DX] at h;intro e;simp[e] at h
theorem l8(x:aH)(hsz:x.sz<=4194304):bq prog 125 [x.v] (.c (.d (.b (gH x)))):=fun S=>by
 have hs:=aH.sum x
 have hV:∀s∈x.aO,s.length<=4194304:=fun s h=>by have:=yI h;omega
 have hW:∀b∈x.dO,b.sz<=4194304:=fun b h=>by have:=xI h;omega
 have hM:∀m∈x.aQ,m.sz<=4194304:=fun m h=>by have:=Dl h;omega
 have bad:x.aQ.all rW=false->V.c (.d (.b false))=V.c (.d (.b (gH x))):=fun h=>bO (by unfold gH;rw[h];simp);have no:Ba x=false->V.c (.d (.b false))=V.c (.d (.b (gH x))):=fun h=>bO (by unfold gH;rw[h];rfl)
 have hk:iI x.aO x.dA=true->qy x.dA=false->(x.dA.aR=1\/x.dA.aR=2\/x.dA.aR=4):=fun h1 h2=>by
  unfold iI at h1;rw[Bool.and_eq_true] at h1;have:=XE h1.1;have:=aau h2;omega
 refine zcx [.tmp 2] func125 ntmps125 ?_;simp -implicitDefEqProofs (disch:=omega) only[go_sem]
 repeat' (first
  |with_reducible refine aD (fun hb=> ?_) (fun hb=> ?_)<;>have h:=hb<;>(try simp only[wf_preprocess] at h)<;>simp -implicitDefEqProofs (disch:=omega) only[go_sem,hb]<;>(repeat(with_reducible refine And.intro ?_ ?_;focus first|omega|rfl|assumption|exact⟨_,rfl,rfl⟩|(simp;omega)|(simp;done)))
  |((with_reducible show iJ _ _ 77 _ _ _ _);refine aB (gM x.bU (by omega)) ?_;simp -implicitDefEqProofs (disch:=omega) only[go_sem])
  |((with_reducible show iJ _ _ 78 _ _ _ _);refine aB (j6 x.aO 3 (by omega) hV) ?_;simp -implicitDefEqProofs (disch:=omega) only[go_sem])
  |((with_reducible show iJ _ _ 160 _ _ _ _);refine aB (ru x.dA x.aO (by omega) (by omega)) ?_;simp -implicitDefEqProofs (disch:=omega) only[go_sem])
  |((with_reducible show iJ _ _ 161 _ _ _ _);refine aB (CY x.dA (by omega)) ?_;simp -implicitDefEqProofs (disch:=omega) only[go_sem])
  |((with_reducible show iJ _ _ 162 _ _ _ _);refine aB (Il x.dO x.aO (by omega) hW (by omega)) ?_;simp -implicitDefEqProofs (disch:=omega) only[go_sem])
  |(refine no ?_;unfold Ba;grind [gL,j5,dQ,bK]))
 all_goals
  have h1:validName x.bU=true:=by assumption
  have h2:(dec ((x.aO.length:Int)<=3)&&iP x.aO)=true:=by assumption
  have h3:iI x.aO x.dA=true:=by assumption
  have h4:qy x.dA=false:=by assumption
  have h5:¬x.dA.aR=4:=by assumption
  have h6:rC x.aO x.dO=true:=by assumption
 have h7:=hk h3 h4;clear hk;rw[Bool.and_eq_true] at h2;have h8:=gL h2.1
 have pre:Ba x=(among x.aO (jO [] x.dA)&&((if x.fB=true then iI x.aO x.bV else dec (Bz x.bV))&&dec (x.aQ.length<=6))):=by
  unfold Ba;rw[h1,h2.2,h3,h4,h6,dQ (show x.aO.length<=3 by omega),dQ (show x.dA.aR=2\/x.dA.aR=1 by omega)]
  simp
 clear h1 h2 h3 h4 h5 h6 h7 h8
 refine bT (ι:=Nat) zmx rfl [1,3] (fun i=>[.c (.ptr (0,0) 0),.c (.d (.i .i64 i))]) (fun _=>[.box (x.enc.map .d)]::S)
  (fun i=>i<=x.aO.length/\among (x.aO.drop i) (jO [] x.dA)=among x.aO (jO [] x.dA)) (fun i=>x.aO.length-i) 0 rfl ?_ ⟨Nat.zero_le _,rfl⟩ ?_
 ·simp -implicitDefEqProofs (disch:=omega) only[go_sem]
 rintro i ⟨p1,p2⟩;simp -implicitDefEqProofs (disch:=omega) only[go_sem,encS]
 with_reducible refine aD (fun hb=> ?_) (fun hb=> ?_)<;>have h:=hb<;>(try simp only[wf_preprocess] at h)<;>simp -implicitDefEqProofs (disch:=omega) only[go_sem,hb,encS]<;>(repeat(with_reducible refine And.intro ?_ ?_;focus first|omega|rfl|assumption|exact⟨_,rfl,rfl⟩|(simp;omega)|(simp;done)))
 ·have hi:i<x.aO.length:=by omega
  rw[List.drop_eq_getElem_cons hi] at p2;have p3:among x.aO (jO [] x.dA)=(dec (x.aO[i]∈jO [] x.dA)&&among (x.aO.drop (i+1)) (jO [] x.dA)):=p2.symm
  (repeat(with_reducible refine And.intro ?_ ?_;focus first|omega|rfl|assumption|exact⟨_,rfl,rfl⟩|(simp;omega)|(simp;done)))
  refine aB (Ox x.aO[i] x.dA (by omega)) ?_;simp -implicitDefEqProofs (disch:=omega) only[go_sem]<;>(repeat(with_reducible refine And.intro ?_ ?_;focus first|omega|rfl|assumption|exact⟨_,rfl,rfl⟩|(simp;omega)|(simp;done)));rw[XD]
  with_reducible refine aD (fun hb=> ?_) (fun hb=> ?_)<;>have h:=hb<;>(try simp only[wf_preprocess] at h)<;>simp -implicitDefEqProofs (disch:=omega) only[go_sem,hb]<;>(repeat(with_reducible refine And.intro ?_ ?_;focus first|omega|rfl|assumption|exact⟨_,rfl,rfl⟩|(simp;omega)|(simp;done)))
  ·exact no (by rw[pre,p3,bK h];rfl)
  ·exact dG (i+1) (by omega) rfl rfl ⟨by omega,by rw[p3,dQ h];rfl⟩
 rw[List.drop_of_length_le (by omega)] at p2;have p3:among x.aO (jO [] x.dA)=true:=p2.symm;rw[p3,Bool.true_and] at pre;refine(show Hold ((if x.fB=true then iI x.aO x.bV else dec (Bz x.bV))=true-> ?T)->_ from fun tail=> ?main) ?tp
 case' main=>
  repeat' (first
   |with_reducible refine aD (fun hb=> ?_) (fun hb=> ?_)<;>have h:=hb<;>(try simp only[wf_preprocess] at h)<;>simp -implicitDefEqProofs (disch:=omega) only[go_sem,hb]<;>(repeat(with_reducible refine And.intro ?_ ?_;focus first|omega|rfl|assumption|exact⟨_,rfl,rfl⟩|(simp;omega)|(simp;done)))
   |((with_reducible show iJ _ _ 160 _ _ _ _);refine aB (ru x.bV x.aO (by omega) (by omega)) ?_;simp -implicitDefEqProofs (disch:=omega) only[go_sem])
   |((with_reducible show iJ _ _ 164 _ _ _ _);refine aB (KN x.bV) ?_;simp -implicitDefEqProofs (disch:=omega) only[go_sem])
   |(refine no ?_;rw[pre];grind [gL,j5,dQ,bK]))
  all_goals
   have hh:(if x.fB=true then iI x.aO x.bV else dec (Bz x.bV))=true:=by grind [gL,j5,dQ,bK]
   (repeat(with_reducible refine And.intro ?_ ?_;focus first|omega|rfl|assumption|exact⟨_,rfl,rfl⟩|(simp;omega)|(simp;done)))
   refine lq 4 1 [] rfl (by simp) ?_;refine Ay (st':=[.box (x.enc.map .d),.tok 1 []]::S) [1,4,5] [.c (.ptr (0,0) 0),.c (.bX (0,1) []),.c (.d (.i .i64 0))] ?_ ?_ ?_
   ·rfl
   ·first|(simp -implicitDefEqProofs (disch:=omega) only[go_sem];done)|(simp -implicitDefEqProofs (disch:=omega) only[go_sem];simp[*])
   ·exact tail.out hh
 refine⟨fun hh=> ?_⟩;rw[hh,Bool.true_and] at pre;clear p2 p3 p1 hh no
 have adO:∀i,∀hi:i<x.aQ.length,rW x.aQ[i]=false->V.c (.d (.b false))=V.c (.d (.b (gH x))):=fun i hi h=>bad (Bool.eq_false_iff.2 fun hx=>by
  rw[List.all_eq_true.1 hx _ (List.getElem_mem hi)] at h;cases h)
 refine bT (ι:=Nat×List (List UInt8)) zmx rfl [1,4,5] (fun y=>[.c (.ptr (0,0) 0),.c (.bX (0,1) (y.2.map encS)),.c (.d (.i .i64 y.1))]) (fun y=>[.box (x.enc.map .d),.tok 1 (y.2.map encS)]::S)
  (fun y=>y.1<=x.aQ.length/\y.2=(qO x).take y.1/\∀j,∀hj:j<x.aQ.length,j<y.1->rW x.aQ[j]=true) (fun y=>x.aQ.length-y.1) (0,[]) rfl ?_ ⟨Nat.zero_le _,rfl,fun j _ h=>by simp only at h;omega⟩ ?_
 ·simp -implicitDefEqProofs (disch:=omega) only[go_sem]
 rintro⟨i,names⟩ ⟨p1,p2,p3⟩;simp only at p1 p2 p3
 have pl:names.length<=x.aQ.length:=by rw[p2];simp[qO];omega
 simp -implicitDefEqProofs (disch:=omega) only[go_sem]
 with_reducible refine aD (fun hb=> ?_) (fun hb=> ?_)<;>have h:=hb<;>(try simp only[wf_preprocess] at h)<;>simp -implicitDefEqProofs (disch:=omega) only[go_sem,hb]<;>(repeat(with_reducible refine And.intro ?_ ?_;focus first|omega|rfl|assumption|exact⟨_,rfl,rfl⟩|(simp;omega)|(simp;done)))
 ·have hi:i<x.aQ.length:=by omega
  have hm:=hM _ (List.getElem_mem hi);have hms:=aN.sum x.aQ[i]
  have hmv:∀s∈x.aQ[i].aO,s.length<=4194304:=fun s h=>by have:=yI h;omega
  (repeat(with_reducible refine And.intro ?_ ?_;focus first|omega|rfl|assumption|exact⟨_,rfl,rfl⟩|(simp;omega)|(simp;done)))
  with_reducible refine aD (fun hb=> ?_) (fun hb=> ?_)<;>have h:=hb<;>(try simp only[wf_preprocess] at h)<;>simp -implicitDefEqProofs (disch:=omega) only[go_sem,hb]<;>(repeat(with_reducible refine And.intro ?_ ?_;focus first|omega|rfl|assumption|exact⟨_,rfl,rfl⟩|(simp;omega)|(simp;done)))
  ·exact adO i hi (by unfold rW;rw[bK (by omega)];rfl)
  (repeat(with_reducible refine And.intro ?_ ?_;focus first|omega|rfl|assumption|exact⟨_,rfl,rfl⟩|(simp;omega)|(simp;done)))
  refine aB (j6 x.aQ[i].aO 5 (by omega) hmv) ?_;simp -implicitDefEqProofs (disch:=omega) only[go_sem]<;>(repeat(with_reducible refine And.intro ?_ ?_;focus first|omega|rfl|assumption|exact⟨_,rfl,rfl⟩|(simp;omega)|(simp;done)))
  with_reducible refine aD (fun hb=> ?_) (fun hb=> ?_)<;>have h:=hb<;>(try simp only[wf_preprocess] at h)<;>simp -implicitDefEqProofs (disch:=omega) only[go_sem,hb]<;>(repeat(with_reducible refine And.intro ?_ ?_;focus first|omega|rfl|assumption|exact⟨_,rfl,rfl⟩|(simp;omega)|(simp;done)))
  ·refine adO i hi ?_;unfold rW nA
   have:(dec (x.aQ[i].aO.length<=5)&&iP x.aQ[i].aO)=false:=by
    rw[<-h];congr 1;exact kP ⟨fun h=>by omega,fun h=>by omega⟩
   rw[<-Bool.and_assoc (dec (x.aQ[i].aO.length<=5)),this];simp
  have k1:=h;rw[Bool.and_eq_true] at k1;have k4:=gL k1.1
  (repeat(with_reducible refine And.intro ?_ ?_;focus first|omega|rfl|assumption|exact⟨_,rfl,rfl⟩|(simp;omega)|(simp;done)))
  refine aB (Ee x.aQ[i].aO x.aQ[i].fBody (by omega) (by omega)) ?_;simp -implicitDefEqProofs (disch:=omega) only[go_sem]<;>(repeat(with_reducible refine And.intro ?_ ?_;focus first|omega|rfl|assumption|exact⟨_,rfl,rfl⟩|(simp;omega)|(simp;done)))
  with_reducible refine aD (fun hb=> ?_) (fun hb=> ?_)<;>have h:=hb<;>(try simp only[wf_preprocess] at h)<;>simp -implicitDefEqProofs (disch:=omega) only[go_sem,hb]<;>(repeat(with_reducible refine And.intro ?_ ?_;focus first|omega|rfl|assumption|exact⟨_,rfl,rfl⟩|(simp;omega)|(simp;done)))
  ·exact adO i hi (by unfold rW nA;rw[h];simp)
  have k2:=h
  have k3:rW x.aQ[i]=true:=by unfold rW nA;rw[k2,k1.2,dQ (by omega),dQ (by omega)];rfl
  (repeat(with_reducible refine And.intro ?_ ?_;focus first|omega|rfl|assumption|exact⟨_,rfl,rfl⟩|(simp;omega)|(simp;done)))
  rw[show List.map encS names++[[D.s x.aQ[i].fName]]=List.map encS (names++[x.aQ[i].fName]) by simp[encS]]
  exact fu 2 (by decide) (i+1,names++[x.aQ[i].fName]) (by simp only;omega) rfl rfl rfl rfl ⟨by simp only;omega,by simp only;rw[p2,nP (by simpa [qO] using hi)];simp[qO],fun j hj hji=>by
   simp only at hji;by_cases e:j=i
   ·subst e;exact k3
   ·exact p3 j hj (by omega)⟩
 have hi:i=x.aQ.length:=by omega
 have hn:names=qO x:=by rw[p2,List.take_of_length_le (by simp[qO];omega)]
 have hall:x.aQ.all rW=true:=List.all_eq_true.2 fun c hc=>by
  obtain⟨j,hj,e⟩:=List.getElem_of_mem hc;rw[<-e];exact p3 j hj (by omega)
 have hnl:∀s∈names,s.length<=4194304:=fun s hm=>by
  rw[hn] at hm;obtain⟨g,hg,e⟩:=List.mem_map.1 hm;have:=hM g hg;have:=aN.sum g;rw[<-e];omega
 have hlen:names.length=x.aQ.length:=by rw[hn];simp[qO]
 refine aB (j6 names 6 (by omega) hnl) ?_;simp -implicitDefEqProofs (disch:=omega) only[go_sem]<;>(repeat(with_reducible refine And.intro ?_ ?_;focus first|omega|rfl|assumption|exact⟨_,rfl,rfl⟩|(simp;omega)|(simp;done)));refine bO ?_;unfold gH;rw[pre,hall,hn,Bool.true_and];congr 1;rw[<-hn,hlen];exact kP ⟨fun h=>by omega,fun h=>by omega⟩
def zm(P:Program)(N:Nat)(g:St->St):Nat->Code->(Exit->St->Prop)->St->Prop
 |0,c,Q,s=>CW P N c Q (g s)
 |k+1,.seq x y,Q,s=>CW P N x (jJ (zm P N g k y Q) Q) s
 |_,_,_,_=>False
theorem adP{P:Program}{N:Nat}{g:St->St}{c:Code}{Q:Exit->St->Prop}{s:St}:zm P N g 0 c Q s=CW P N c Q (g s):=by rw[zm]
theorem Bb{P:Program}{N k:Nat}{g:St->St}{x y:Code}{Q:Exit->St->Prop}{s:St}:zm P N g (k+1) (.seq x y) Q s=CW P N x (jJ (zm P N g k y Q) Q) s:=by rw[zm]
theorem adQ{P:Program}{N:Nat}{g:St->St}{x y:Code}{Q:Exit->St->Prop}{s:St}:zm P N g 5 (.seq x y) Q s=CW P N x (jJ (zm P N g 4 y Q) Q) s:=Bb
theorem adR{P:Program}{N:Nat}{g:St->St}{x y:Code}{Q:Exit->St->Prop}{s:St}:zm P N g 4 (.seq x y) Q s=CW P N x (jJ (zm P N g 3 y Q) Q) s:=Bb
theorem aav{P:Program}{N:Nat}{g:St->St}{x y:Code}{Q:Exit->St->Prop}{s:St}:zm P N g 3 (.seq x y) Q s=CW P N x (jJ (zm P N g 2 y Q) Q) s:=Bb
theorem agn{P:Program}{N:Nat}{g:St->St}{x y:Code}{Q:Exit->St->Prop}{s:St}:zm P N g 2 (.seq x y) Q s=CW P N x (jJ (zm P N g 1 y Q) Q) s:=Bb
theorem agp{P:Program}{N:Nat}{g:St->St}{x y:Code}{Q:Exit->St->Prop}{s:St}:zm P N g 1 (.seq x y) Q s=CW P N x (jJ (zm P N g 0 y Q) Q) s:=Bb
attribute [go_sem] adP adQ adR aav agn agp
def sO:List UInt8:=[105,110,115,116]
def qc:List UInt8:=[100,101,102,97,117,108,116]
def oC(x:aH):List (List UInt8):=if x.iA=true then [qc] else []
def nE(x:aH):List au:=if x.fB=true then [dR x.bV] else []
def oD(m:aN):au:=d9 [bN m.fName,d9 (dh m.aO),fO m.fBody]
def nM(x:aH):List au:=[bN sO,bN x.bU,d9 (dh x.aO),dR x.dA,d9 (x.dO.map wI),d9 (dh (oC x)),d9 (nE x)]
def wX(x:aH):au:=d9 (nM x++x.aQ.map oD)
noncomputable def Ry(x:aH):au:=tJ (gH x) (wX x)
theorem agq{x:aH}(h:x.sz<=1048576):(Ry x).sz<=1048576:=Nat.le_trans (G5 _ _) (by decide)
theorem agr(m:aN)(hok:iW m.fBody=true):(oD m).sz<=27+32*m.sz:=by
 have h1:=F3 m.fBody hok;have h3:=aN.sum m;rw[dZ] at h3;rw[oD,iZ];simp[dI,iY,iZ,kS,o9];omega
theorem Rz:∀l:List aN,(∀g∈l,iW g.fBody=true)->dI (l.map oD)<=27*l.length+32*aI (l.map aN.enc)
 |[],_=>by simp[dI]
 |c::l,h=>by
  have h1:=agr c (h c (List.mem_cons_self ..));have h2:=Rz l fun g hg=>h g (List.mem_cons_of_mem _ hg);rw[List.map_cons,dI,List.map_cons,aI,List.length_cons];simp only[aN.sz] at h1;omega
theorem mZ{x:aH}(h:gH x=true):formed x.dA=true/\(∀b∈x.dO,formed b.fType=true)/\(x.fB=true->formed x.bV=true)/\(∀m∈x.aQ,iW m.fBody=true):=by
 unfold gH Ba at h;simp only[Bool.and_eq_true] at h;obtain⟨⟨_,_,_,h1,_,_,_,h2,h3,_⟩,h4,_⟩:=h;refine⟨sM h1,zl h2,fun ha=> ?_,fun m hm=> ?_⟩
 ·rw[if_pos ha] at h3;exact sM h3
 ·have h5:=List.all_eq_true.1 h4 m hm;unfold rW at h5;simp only[Bool.and_eq_true] at h5;exact BF h5.2.2
theorem Lc{x:aH}(hok:gH x=true):(wX x).sz<=96+40*x.sz:=by
 obtain⟨_,_,_,hm⟩:=mZ hok;have h1:=Rz x.aQ hm;have h2:=Mr x.dO;have h3:=aH.sum x;have h4:=yJ x.dA;have h5:=yJ x.bV
 have h6:(oC x).length<=1/\((oC x).map List.length).sum<=7:=by unfold oC;split<;>simp[qc]
 have h7:(nE x).length<=1/\dI (nE x)<=(dR x.bV).sz:=by unfold nE;split<;>simp[dI]
 rw[dZ] at h3;rw[wX,iZ,jP,List.length_append,List.length_map];simp[nM,dI,iY,iZ,kS,o9,sO];omega
theorem adS(x:aH)(hv:gH x=true)(hsz:x.sz<=1048576)(ha:x.iA=true)(hs:x.fB=true):bq prog 257 [x.v] (AA (wX x)).v:=fun S=>by
 have hdz:=aH.sum x;rw[dZ] at hdz;obtain⟨hf1,hf2,hf3,Im⟩:=mZ hv;have hz:=Lc hv
 have hfl:oC x=[qc]:=by unfold oC;rw[ha];rfl
 have has:nE x=[dR x.bV]:=by unfold nE;rw[hs];rfl
 obtain⟨T,hT⟩:∃T:Nat->List (List D),T=fun i=>(nM x++(x.aQ.map oD).take i).map au.enc:=⟨_,rfl⟩
 have hT0:T 0=[[.s sO,.sl []],[.s x.bU,.sl []],[.s [],.sl ((dh x.aO).map au.enc)],[.s (dR x.dA).bC,.sl ((dR x.dA).aA.map au.enc)],[.s [],.sl ((x.dO.map wI).map au.enc)],[.s [],.sl ((dh [qc]).map au.enc)],[.s [],.sl [[.s (dR x.bV).bC,.sl ((dR x.bV).aA.map au.enc)]]]]:=by
  rw[hT];simp only[List.take_zero,List.append_nil,nM,hfl,has,List.map_cons,List.map_nil,eU,jf,au.aj (dR x.dA),au.aj (dR x.bV)]
 have iE:∀i,(T i).length<=i+7:=fun i=>by
  rw[hT];simp only[List.length_map,List.length_append];have:=List.length_take_le i (x.aQ.map oD);simp[nM];omega
 have hTs:∀i (hi:i<x.aQ.length),T i++[[.s [],.sl [[.s x.aQ[i].fName,.sl []],[.s [],.sl ((dh x.aQ[i].aO).map au.enc)],[.s (fO x.aQ[i].fBody).bC,.sl ((fO x.aQ[i].fBody).aA.map au.enc)]]]]=T (i+1):=fun i hi=>by
  have:=iN (base:=nM x) (l:=x.aQ.map oD) (i:=i) (by rw[List.length_map];exact hi);rw[List.getElem_map,oD,lu,gZ] at this;simp only[List.map_cons,List.map_nil,eU,jf,au.aj (fO x.aQ[i].fBody)] at this;rw[hT];exact this
 have hTr:∀i,∀r∈T i,r.length=2:=fun i=>by rw[hT];exact je
 have hTe:T x.aQ.length=(wX x).aA.map au.enc:=by
  rw[hT];simp only
  rw[List.take_of_length_le (by simp)];rfl
 clear hT;refine zcx [.cell 2 202] func257 ntmps257 ?_;simp -implicitDefEqProofs (disch:=omega) only[go_sem];refine aB (l8 x (by omega)) ?_;simp -implicitDefEqProofs (disch:=omega) only[go_sem,hv,ha,hs]
 (repeat(with_reducible refine And.intro ?_ ?_;focus first|omega|rfl|assumption|exact⟨_,rfl,rfl⟩|(simp;omega)|(simp;done)))
 refine aB (jX x.bV (by omega)) ?_;simp -implicitDefEqProofs (disch:=omega) only[go_sem]
 (repeat(with_reducible refine And.intro ?_ ?_;focus first|omega|rfl|assumption|exact⟨_,rfl,rfl⟩|(simp;omega)|(simp;done)))
 refine aB (kY _ (by simp) (by simp)) ?_;simp -implicitDefEqProofs (disch:=omega) only[go_sem]
 (repeat(with_reducible refine And.intro ?_ ?_;focus first|omega|rfl|assumption|exact⟨_,rfl,rfl⟩|(simp;omega)|(simp;done)))
 refine aB (bQ _) ?_;simp -implicitDefEqProofs (disch:=omega) only[go_sem];refine aB (bQ _) ?_;simp -implicitDefEqProofs (disch:=omega) only[go_sem];refine aB (dX x.aO (by omega)) ?_;simp -implicitDefEqProofs (disch:=omega) only[go_sem];refine aB (jX x.dA (by omega)) ?_;simp -implicitDefEqProofs (disch:=omega) only[go_sem];refine aB (tT x.dO (by omega) (fun b hb=>by have:=xI hb;omega)) ?_;simp -implicitDefEqProofs (disch:=omega) only[go_sem];refine aB (dX [qc] (by simp)) ?_;simp -implicitDefEqProofs (disch:=omega) only[go_sem];have hE:=fun cO Ω=>jM (T 0) (hTr 0) (by have:=iE 0;omega) cO Ω;simp only[hT0] at hE;refine cu [false] rfl (hE _ _) ?_;simp -implicitDefEqProofs (disch:=omega) only[go_sem]
 refine bT (ι:=Nat) zmx rfl [1,2,5,6] (fun i=>[.c (.ptr (0,0) 0),.c (.ptr (0,1) 0),.c (.ptr (0,6) 0),.c (.d (.i .i64 i))])
  (fun i=>[.box [.d (.s x.bU),.d (.sl (x.aO.map encS)),.d (.i .i64 x.dA.aR),.d (.s x.dA.fName),.d (.sl (x.dA.fArgs.map ay.enc)),.d (.sl (x.dO.map aM.enc)),.d (.b true),.d (.b true),.d (.i .i64 x.bV.aR),.d (.s x.bV.fName),.d (.sl (x.bV.fArgs.map ay.enc)),.d (.sl (x.aQ.map aN.enc))],.box [.d (.s []),.bI []],.tok 1 [[.s qc]],.box [.d (.s []),.d (.sl [[.s (dR x.bV).bC,.sl ((dR x.bV).aA.map au.enc)]])],.box [.d (.s []),.bX (0,5) (T 0)],.tok 2 (T i),.box [.d (.s []),.bX (0,5) (T i)]]::S)
  (fun i=>i<=x.aQ.length) (fun i=>x.aQ.length-i) 0 rfl (by simp only[hT0]<;>(try rfl)) (Nat.zero_le _) ?_
 intro i hi;have hl:=iE i;simp -implicitDefEqProofs (disch:=omega) only[go_sem]
 with_reducible refine aD (fun hb=> ?_) (fun hb=> ?_)<;>have h:=hb<;>(try simp only[wf_preprocess] at h)<;>simp -implicitDefEqProofs (disch:=omega) only[go_sem,hb]<;>(repeat(with_reducible refine And.intro ?_ ?_;focus first|omega|rfl|assumption|exact⟨_,rfl,rfl⟩|(simp;omega)|(simp;done)))
 ·have hi':i<x.aQ.length:=by omega
  have hm:=List.getElem_mem hi';have hcz:=Dl hm;have hce:=aN.sum x.aQ[i];rw[dZ] at hce;have hst:=hTs i hi'
  (repeat(with_reducible refine And.intro ?_ ?_;focus first|omega|rfl|assumption|exact⟨_,rfl,rfl⟩|(simp;omega)|(simp;done)))
  refine aB (bQ _) ?_;simp -implicitDefEqProofs (disch:=omega) only[go_sem];refine aB (dX x.aQ[i].aO (by omega)) ?_;simp -implicitDefEqProofs (disch:=omega) only[go_sem];refine aB (qN x.aQ[i].fBody (Im _ hm) (by omega)) ?_;simp -implicitDefEqProofs (disch:=omega) only[go_sem];refine aB (kY _ (by simp) (by simp)) ?_;simp -implicitDefEqProofs (disch:=omega) only[go_sem]
  (repeat(with_reducible refine And.intro ?_ ?_;focus first|omega|rfl|assumption|exact⟨_,rfl,rfl⟩|(simp;omega)|(simp;done)))
  rw[hst];exact fu 7 (by decide) (i+1) (by omega) rfl rfl rfl rfl (by omega)
 ·have hi':i=x.aQ.length:=by omega
  subst hi';rw[hTe];refine aB (pE true (wX x) (by omega)) ?_;simp -implicitDefEqProofs (disch:=omega) only[go_sem];rfl
theorem adT(x:aH)(hv:gH x=true)(hsz:x.sz<=1048576)(ha:x.iA=true)(hs:x.fB=false):bq prog 257 [x.v] (AA (wX x)).v:=fun S=>by
 have hdz:=aH.sum x;rw[dZ] at hdz;obtain⟨hf1,hf2,hf3,Im⟩:=mZ hv;have hz:=Lc hv
 have hfl:oC x=[qc]:=by unfold oC;rw[ha];rfl
 have has:nE x=[]:=by unfold nE;rw[hs];rfl
 obtain⟨T,hT⟩:∃T:Nat->List (List D),T=fun i=>(nM x++(x.aQ.map oD).take i).map au.enc:=⟨_,rfl⟩
 have hT0:T 0=[[.s sO,.sl []],[.s x.bU,.sl []],[.s [],.sl ((dh x.aO).map au.enc)],[.s (dR x.dA).bC,.sl ((dR x.dA).aA.map au.enc)],[.s [],.sl ((x.dO.map wI).map au.enc)],[.s [],.sl ((dh [qc]).map au.enc)],[.s [],.sl []]]:=by
  rw[hT];simp only[List.take_zero,List.append_nil,nM,hfl,has,List.map_cons,List.map_nil,eU,jf,au.aj (dR x.dA),au.aj (dR x.bV)]
 have iE:∀i,(T i).length<=i+7:=fun i=>by
  rw[hT];simp only[List.length_map,List.length_append];have:=List.length_take_le i (x.aQ.map oD);simp[nM];omega
 have hTs:∀i (hi:i<x.aQ.length),T i++[[.s [],.sl [[.s x.aQ[i].fName,.sl []],[.s [],.sl ((dh x.aQ[i].aO).map au.enc)],[.s (fO x.aQ[i].fBody).bC,.sl ((fO x.aQ[i].fBody).aA.map au.enc)]]]]=T (i+1):=fun i hi=>by
  have:=iN (base:=nM x) (l:=x.aQ.map oD) (i:=i) (by rw[List.length_map];exact hi);rw[List.getElem_map,oD,lu,gZ] at this;simp only[List.map_cons,List.map_nil,eU,jf,au.aj (fO x.aQ[i].fBody)] at this;rw[hT];exact this
 have hTr:∀i,∀r∈T i,r.length=2:=fun i=>by rw[hT];exact je
 have hTe:T x.aQ.length=(wX x).aA.map au.enc:=by
  rw[hT];simp only
  rw[List.take_of_length_le (by simp)];rfl
 clear hT;refine zcx [.cell 2 202] func257 ntmps257 ?_;simp -implicitDefEqProofs (disch:=omega) only[go_sem];refine aB (l8 x (by omega)) ?_;simp -implicitDefEqProofs (disch:=omega) only[go_sem,hv,ha,hs]
 (repeat(with_reducible refine And.intro ?_ ?_;focus first|omega|rfl|assumption|exact⟨_,rfl,rfl⟩|(simp;omega)|(simp;done)))
 refine aB (bQ _) ?_;simp -implicitDefEqProofs (disch:=omega) only[go_sem];refine aB (bQ _) ?_;simp -implicitDefEqProofs (disch:=omega) only[go_sem];refine aB (dX x.aO (by omega)) ?_;simp -implicitDefEqProofs (disch:=omega) only[go_sem];refine aB (jX x.dA (by omega)) ?_;simp -implicitDefEqProofs (disch:=omega) only[go_sem];refine aB (tT x.dO (by omega) (fun b hb=>by have:=xI hb;omega)) ?_;simp -implicitDefEqProofs (disch:=omega) only[go_sem];refine aB (dX [qc] (by simp)) ?_;simp -implicitDefEqProofs (disch:=omega) only[go_sem];have hE:=fun cO Ω=>jM (T 0) (hTr 0) (by have:=iE 0;omega) cO Ω;simp only[hT0] at hE;refine cu [false] rfl (hE _ _) ?_;simp -implicitDefEqProofs (disch:=omega) only[go_sem]
 refine bT (ι:=Nat) zmx rfl [1,2,5,6] (fun i=>[.c (.ptr (0,0) 0),.c (.ptr (0,1) 0),.c (.ptr (0,6) 0),.c (.d (.i .i64 i))])
  (fun i=>[.box [.d (.s x.bU),.d (.sl (x.aO.map encS)),.d (.i .i64 x.dA.aR),.d (.s x.dA.fName),.d (.sl (x.dA.fArgs.map ay.enc)),.d (.sl (x.dO.map aM.enc)),.d (.b true),.d (.b false),.d (.i .i64 x.bV.aR),.d (.s x.bV.fName),.d (.sl (x.bV.fArgs.map ay.enc)),.d (.sl (x.aQ.map aN.enc))],.box [.d (.s []),.bI []],.tok 1 [[.s qc]],.box [.d (.s []),.bI []],.box [.d (.s []),.bX (0,5) (T 0)],.tok 2 (T i),.box [.d (.s []),.bX (0,5) (T i)]]::S)
  (fun i=>i<=x.aQ.length) (fun i=>x.aQ.length-i) 0 rfl (by simp only[hT0]<;>(try rfl)) (Nat.zero_le _) ?_
 intro i hi;have hl:=iE i;simp -implicitDefEqProofs (disch:=omega) only[go_sem]
 with_reducible refine aD (fun hb=> ?_) (fun hb=> ?_)<;>have h:=hb<;>(try simp only[wf_preprocess] at h)<;>simp -implicitDefEqProofs (disch:=omega) only[go_sem,hb]<;>(repeat(with_reducible refine And.intro ?_ ?_;focus first|omega|rfl|assumption|exact⟨_,rfl,rfl⟩|(simp;omega)|(simp;done)))
 ·have hi':i<x.aQ.length:=by omega
  have hm:=List.getElem_mem hi';have hcz:=Dl hm;have hce:=aN.sum x.aQ[i];rw[dZ] at hce;have hst:=hTs i hi'
  (repeat(with_reducible refine And.intro ?_ ?_;focus first|omega|rfl|assumption|exact⟨_,rfl,rfl⟩|(simp;omega)|(simp;done)))
  refine aB (bQ _) ?_;simp -implicitDefEqProofs (disch:=omega) only[go_sem];refine aB (dX x.aQ[i].aO (by omega)) ?_;simp -implicitDefEqProofs (disch:=omega) only[go_sem];refine aB (qN x.aQ[i].fBody (Im _ hm) (by omega)) ?_;simp -implicitDefEqProofs (disch:=omega) only[go_sem];refine aB (kY _ (by simp) (by simp)) ?_;simp -implicitDefEqProofs (disch:=omega) only[go_sem]
  (repeat(with_reducible refine And.intro ?_ ?_;focus first|omega|rfl|assumption|exact⟨_,rfl,rfl⟩|(simp;omega)|(simp;done)))
  rw[hst];exact fu 7 (by decide) (i+1) (by omega) rfl rfl rfl rfl (by omega)
 ·have hi':i=x.aQ.length:=by omega
  subst hi';rw[hTe];refine aB (pE true (wX x) (by omega)) ?_;simp -implicitDefEqProofs (disch:=omega) only[go_sem];rfl
theorem adU(x:aH)(hv:gH x=true)(hsz:x.sz<=1048576)(ha:x.iA=false)(hs:x.fB=true):bq prog 257 [x.v] (AA (wX x)).v:=fun S=>by
 have hdz:=aH.sum x;rw[dZ] at hdz;obtain⟨hf1,hf2,hf3,Im⟩:=mZ hv;have hz:=Lc hv
 have hfl:oC x=[]:=by unfold oC;rw[ha];rfl
 have has:nE x=[dR x.bV]:=by unfold nE;rw[hs];rfl
 obtain⟨T,hT⟩:∃T:Nat->List (List D),T=fun i=>(nM x++(x.aQ.map oD).take i).map au.enc:=⟨_,rfl⟩
 have hT0:T 0=[[.s sO,.sl []],[.s x.bU,.sl []],[.s [],.sl ((dh x.aO).map au.enc)],[.s (dR x.dA).bC,.sl ((dR x.dA).aA.map au.enc)],[.s [],.sl ((x.dO.map wI).map au.enc)],[.s [],.sl ((dh []).map au.enc)],[.s [],.sl [[.s (dR x.bV).bC,.sl ((dR x.bV).aA.map au.enc)]]]]:=by
  rw[hT];simp only[List.take_zero,List.append_nil,nM,hfl,has,List.map_cons,List.map_nil,eU,jf,au.aj (dR x.dA),au.aj (dR x.bV)]
 have iE:∀i,(T i).length<=i+7:=fun i=>by
  rw[hT];simp only[List.length_map,List.length_append];have:=List.length_take_le i (x.aQ.map oD);simp[nM];omega
 have hTs:∀i (hi:i<x.aQ.length),T i++[[.s [],.sl [[.s x.aQ[i].fName,.sl []],[.s [],.sl ((dh x.aQ[i].aO).map au.enc)],[.s (fO x.aQ[i].fBody).bC,.sl ((fO x.aQ[i].fBody).aA.map au.enc)]]]]=T (i+1):=fun i hi=>by
  have:=iN (base:=nM x) (l:=x.aQ.map oD) (i:=i) (by rw[List.length_map];exact hi);rw[List.getElem_map,oD,lu,gZ] at this;simp only[List.map_cons,List.map_nil,eU,jf,au.aj (fO x.aQ[i].fBody)] at this;rw[hT];exact this
 have hTr:∀i,∀r∈T i,r.length=2:=fun i=>by rw[hT];exact je
 have hTe:T x.aQ.length=(wX x).aA.map au.enc:=by
  rw[hT];simp only
  rw[List.take_of_length_le (by simp)];rfl
 clear hT;refine zcx [.cell 2 202] func257 ntmps257 ?_;simp -implicitDefEqProofs (disch:=omega) only[go_sem];refine aB (l8 x (by omega)) ?_;simp -implicitDefEqProofs (disch:=omega) only[go_sem,hv,ha,hs]
 (repeat(with_reducible refine And.intro ?_ ?_;focus first|omega|rfl|assumption|exact⟨_,rfl,rfl⟩|(simp;omega)|(simp;done)))
 refine aB (jX x.bV (by omega)) ?_;simp -implicitDefEqProofs (disch:=omega) only[go_sem]
 (repeat(with_reducible refine And.intro ?_ ?_;focus first|omega|rfl|assumption|exact⟨_,rfl,rfl⟩|(simp;omega)|(simp;done)))
 refine aB (kY _ (by simp) (by simp)) ?_;simp -implicitDefEqProofs (disch:=omega) only[go_sem]
 (repeat(with_reducible refine And.intro ?_ ?_;focus first|omega|rfl|assumption|exact⟨_,rfl,rfl⟩|(simp;omega)|(simp;done)))
 refine aB (bQ _) ?_;simp -implicitDefEqProofs (disch:=omega) only[go_sem];refine aB (bQ _) ?_;simp -implicitDefEqProofs (disch:=omega) only[go_sem];refine aB (dX x.aO (by omega)) ?_;simp -implicitDefEqProofs (disch:=omega) only[go_sem];refine aB (jX x.dA (by omega)) ?_;simp -implicitDefEqProofs (disch:=omega) only[go_sem];refine aB (tT x.dO (by omega) (fun b hb=>by have:=xI hb;omega)) ?_;simp -implicitDefEqProofs (disch:=omega) only[go_sem];refine aB (dX [] (by simp)) ?_;simp -implicitDefEqProofs (disch:=omega) only[go_sem];have hE:=fun cO Ω=>jM (T 0) (hTr 0) (by have:=iE 0;omega) cO Ω;simp only[hT0] at hE;refine cu [false] rfl (hE _ _) ?_;simp -implicitDefEqProofs (disch:=omega) only[go_sem]
 refine bT (ι:=Nat) zmx rfl [1,2,5,6] (fun i=>[.c (.ptr (0,0) 0),.c (.ptr (0,1) 0),.c (.ptr (0,5) 0),.c (.d (.i .i64 i))])
  (fun i=>[.box [.d (.s x.bU),.d (.sl (x.aO.map encS)),.d (.i .i64 x.dA.aR),.d (.s x.dA.fName),.d (.sl (x.dA.fArgs.map ay.enc)),.d (.sl (x.dO.map aM.enc)),.d (.b false),.d (.b true),.d (.i .i64 x.bV.aR),.d (.s x.bV.fName),.d (.sl (x.bV.fArgs.map ay.enc)),.d (.sl (x.aQ.map aN.enc))],.box [.d (.s []),.bI []],.box [.d (.s []),.d (.sl [[.s (dR x.bV).bC,.sl ((dR x.bV).aA.map au.enc)]])],.box [.d (.s []),.bX (0,4) (T 0)],.tok 2 (T i),.box [.d (.s []),.bX (0,4) (T i)]]::S)
  (fun i=>i<=x.aQ.length) (fun i=>x.aQ.length-i) 0 rfl (by simp only[hT0]<;>(try rfl)) (Nat.zero_le _) ?_
 intro i hi;have hl:=iE i;simp -implicitDefEqProofs (disch:=omega) only[go_sem]
 with_reducible refine aD (fun hb=> ?_) (fun hb=> ?_)<;>have h:=hb<;>(try simp only[wf_preprocess] at h)<;>simp -implicitDefEqProofs (disch:=omega) only[go_sem,hb]<;>(repeat(with_reducible refine And.intro ?_ ?_;focus first|omega|rfl|assumption|exact⟨_,rfl,rfl⟩|(simp;omega)|(simp;done)))
 ·have hi':i<x.aQ.length:=by omega
  have hm:=List.getElem_mem hi';have hcz:=Dl hm;have hce:=aN.sum x.aQ[i];rw[dZ] at hce;have hst:=hTs i hi'
  (repeat(with_reducible refine And.intro ?_ ?_;focus first|omega|rfl|assumption|exact⟨_,rfl,rfl⟩|(simp;omega)|(simp;done)))
  refine aB (bQ _) ?_;simp -implicitDefEqProofs (disch:=omega) only[go_sem];refine aB (dX x.aQ[i].aO (by omega)) ?_;simp -implicitDefEqProofs (disch:=omega) only[go_sem];refine aB (qN x.aQ[i].fBody (Im _ hm) (by omega)) ?_;simp -implicitDefEqProofs (disch:=omega) only[go_sem];refine aB (kY _ (by simp) (by simp)) ?_;simp -implicitDefEqProofs (disch:=omega) only[go_sem]
  (repeat(with_reducible refine And.intro ?_ ?_;focus first|omega|rfl|assumption|exact⟨_,rfl,rfl⟩|(simp;omega)|(simp;done)))
  rw[hst];exact fu 6 (by decide) (i+1) (by omega) rfl rfl rfl rfl (by omega)
 ·have hi':i=x.aQ.length:=by omega
  subst hi';rw[hTe];refine aB (pE true (wX x) (by omega)) ?_;simp -implicitDefEqProofs (disch:=omega) only[go_sem];rfl
theorem adV(x:aH)(hv:gH x=true)(hsz:x.sz<=1048576)(ha:x.iA=false)(hs:x.fB=false):bq prog 257 [x.v] (AA (wX x)).v:=fun S=>by
 have hdz:=aH.sum x;rw[dZ] at hdz;obtain⟨hf1,hf2,hf3,Im⟩:=mZ hv;have hz:=Lc hv
 have hfl:oC x=[]:=by unfold oC;rw[ha];rfl
 have has:nE x=[]:=by unfold nE;rw[hs];rfl
 obtain⟨T,hT⟩:∃T:Nat->List (List D),T=fun i=>(nM x++(x.aQ.map oD).take i).map au.enc:=⟨_,rfl⟩
 have hT0:T 0=[[.s sO,.sl []],[.s x.bU,.sl []],[.s [],.sl ((dh x.aO).map au.enc)],[.s (dR x.dA).bC,.sl ((dR x.dA).aA.map au.enc)],[.s [],.sl ((x.dO.map wI).map au.enc)],[.s [],.sl ((dh []).map au.enc)],[.s [],.sl []]]:=by
  rw[hT];simp only[List.take_zero,List.append_nil,nM,hfl,has,List.map_cons,List.map_nil,eU,jf,au.aj (dR x.dA),au.aj (dR x.bV)]
 have iE:∀i,(T i).length<=i+7:=fun i=>by
  rw[hT];simp only[List.length_map,List.length_append];have:=List.length_take_le i (x.aQ.map oD);simp[nM];omega
 have hTs:∀i (hi:i<x.aQ.length),T i++[[.s [],.sl [[.s x.aQ[i].fName,.sl []],[.s [],.sl ((dh x.aQ[i].aO).map au.enc)],[.s (fO x.aQ[i].fBody).bC,.sl ((fO x.aQ[i].fBody).aA.map au.enc)]]]]=T (i+1):=fun i hi=>by
  have:=iN (base:=nM x) (l:=x.aQ.map oD) (i:=i) (by rw[List.length_map];exact hi);rw[List.getElem_map,oD,lu,gZ] at this;simp only[List.map_cons,List.map_nil,eU,jf,au.aj (fO x.aQ[i].fBody)] at this;rw[hT];exact this
 have hTr:∀i,∀r∈T i,r.length=2:=fun i=>by rw[hT];exact je
 have hTe:T x.aQ.length=(wX x).aA.map au.enc:=by
  rw[hT];simp only
  rw[List.take_of_length_le (by simp)];rfl
 clear hT;refine zcx [.cell 2 202] func257 ntmps257 ?_;simp -implicitDefEqProofs (disch:=omega) only[go_sem];refine aB (l8 x (by omega)) ?_;simp -implicitDefEqProofs (disch:=omega) only[go_sem,hv,ha,hs]
 (repeat(with_reducible refine And.intro ?_ ?_;focus first|omega|rfl|assumption|exact⟨_,rfl,rfl⟩|(simp;omega)|(simp;done)))
 refine aB (bQ _) ?_;simp -implicitDefEqProofs (disch:=omega) only[go_sem];refine aB (bQ _) ?_;simp -implicitDefEqProofs (disch:=omega) only[go_sem];refine aB (dX x.aO (by omega)) ?_;simp -implicitDefEqProofs (disch:=omega) only[go_sem];refine aB (jX x.dA (by omega)) ?_;simp -implicitDefEqProofs (disch:=omega) only[go_sem];refine aB (tT x.dO (by omega) (fun b hb=>by have:=xI hb;omega)) ?_;simp -implicitDefEqProofs (disch:=omega) only[go_sem];refine aB (dX [] (by simp)) ?_;simp -implicitDefEqProofs (disch:=omega) only[go_sem];have hE:=fun cO Ω=>jM (T 0) (hTr 0) (by have:=iE 0;omega) cO Ω;simp only[hT0] at hE;refine cu [false] rfl (hE _ _) ?_;simp -implicitDefEqProofs (disch:=omega) only[go_sem]
 refine bT (ι:=Nat) zmx rfl [1,2,5,6] (fun i=>[.c (.ptr (0,0) 0),.c (.ptr (0,1) 0),.c (.ptr (0,5) 0),.c (.d (.i .i64 i))])
  (fun i=>[.box [.d (.s x.bU),.d (.sl (x.aO.map encS)),.d (.i .i64 x.dA.aR),.d (.s x.dA.fName),.d (.sl (x.dA.fArgs.map ay.enc)),.d (.sl (x.dO.map aM.enc)),.d (.b false),.d (.b false),.d (.i .i64 x.bV.aR),.d (.s x.bV.fName),.d (.sl (x.bV.fArgs.map ay.enc)),.d (.sl (x.aQ.map aN.enc))],.box [.d (.s []),.bI []],.box [.d (.s []),.bI []],.box [.d (.s []),.bX (0,4) (T 0)],.tok 2 (T i),.box [.d (.s []),.bX (0,4) (T i)]]::S)
  (fun i=>i<=x.aQ.length) (fun i=>x.aQ.length-i) 0 rfl (by simp only[hT0]<;>(try rfl)) (Nat.zero_le _) ?_
 intro i hi;have hl:=iE i;simp -implicitDefEqProofs (disch:=omega) only[go_sem]
 with_reducible refine aD (fun hb=> ?_) (fun hb=> ?_)<;>have h:=hb<;>(try simp only[wf_preprocess] at h)<;>simp -implicitDefEqProofs (disch:=omega) only[go_sem,hb]<;>(repeat(with_reducible refine And.intro ?_ ?_;focus first|omega|rfl|assumption|exact⟨_,rfl,rfl⟩|(simp;omega)|(simp;done)))
 ·have hi':i<x.aQ.length:=by omega
  have hm:=List.getElem_mem hi';have hcz:=Dl hm;have hce:=aN.sum x.aQ[i];rw[dZ] at hce;have hst:=hTs i hi'
  (repeat(with_reducible refine And.intro ?_ ?_;focus first|omega|rfl|assumption|exact⟨_,rfl,rfl⟩|(simp;omega)|(simp;done)))
  refine aB (bQ _) ?_;simp -implicitDefEqProofs (disch:=omega) only[go_sem];refine aB (dX x.aQ[i].aO (by omega)) ?_;simp -implicitDefEqProofs (disch:=omega) only[go_sem];refine aB (qN x.aQ[i].fBody (Im _ hm) (by omega)) ?_;simp -implicitDefEqProofs (disch:=omega) only[go_sem];refine aB (kY _ (by simp) (by simp)) ?_;simp -implicitDefEqProofs (disch:=omega) only[go_sem]
  (repeat(with_reducible refine And.intro ?_ ?_;focus first|omega|rfl|assumption|exact⟨_,rfl,rfl⟩|(simp;omega)|(simp;done)))
  rw[hst];exact fu 6 (by decide) (i+1) (by omega) rfl rfl rfl rfl (by omega)
 ·have hi':i=x.aQ.length:=by omega
  subst hi';rw[hTe];refine aB (pE true (wX x) (by omega)) ?_;simp -implicitDefEqProofs (disch:=omega) only[go_sem];rfl
theorem adW(x:aH)(hsz:x.sz<=1048576):bq prog 257 [x.v] (Ry x).v:=by
 unfold Ry
 cases hv:gH x with
 |false=>
  rw[tJ];refine bq.less (fun S=> ?_) (Da [] []);refine zcx [.cell 2 202] func257 ntmps257 ?_;simp -implicitDefEqProofs (disch:=omega) only[go_sem];refine aB (l8 x (by omega)) ?_;simp -implicitDefEqProofs (disch:=omega) only[go_sem,hv]
 |true=>
  rw[tJ]
  cases ha:x.iA with
  |true=>
   cases hs:x.fB with
   |true=>exact adS x hv hsz ha hs
   |false=>exact adT x hv hsz ha hs
  |false=>
   cases hs:x.fB with
   |true=>exact adU x hv hsz ha hs
   |false=>exact adV x hv hsz ha hs
end Go.Ab