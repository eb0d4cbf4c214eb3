/-
  SEVERAL TEXTS IN ONE (merged by program): contracts and models, each with its own heading.
-/
import Derived.Test.YtfhpfkaeldgcmaaGreatPartHfbS
set_option maxHeartbeats 8000000
open Go.Proofs Go.Proofs.Tryz
set_option linter.unusedSimpArgs false
set_option linter.unusedVariables false
set_option maxRecDepth 4000
namespace Go.Ab
noncomputable def sJ(m:aT):Bool:=dec (1<=m.aS.length)&&(dec (m.aS.length<=5)&&nH m.aS m.fBody)
noncomputable def rC(x:aP):List (List UInt8):=x.bC.map aT.fName
noncomputable def BD(x:aP):Bool:=validName x.bU&&(dec (x.aS.length<=3)&&(iT x.aS&&(iK x.aS x.dL&&(!qK x.dL&&(dec (x.dL.aV=2\/x.dL.aV=1)&&(among x.aS (jX [] x.dL)&&(rT x.aS x.dS&&((if x.fM=true then iK x.aS x.bW else dec (BX x.bW))&&dec (x.bC.length<=6)))))))))
noncomputable def gK(x:aP):Bool:=BD x&&(x.bC.all sJ&&iT (rC x))
theorem aP.sum(x:aP):x.bU.length+(x.aS.length+aN (x.aS.map encS))+x.dL.sz+(x.dS.length+aN (x.dS.map aU.enc))+x.bW.sz+(x.bC.length+aN (x.bC.map aT.enc))<=x.sz:=by
 simp only[aP.sz,aP.aj,bD,aY,D.sz,List.length_map,ay.bY];omega
theorem aT.sum(x:aT):x.fName.length+(x.aS.length+aN (x.aS.map encS))+x.fBody.sz<=x.sz:=by
 simp only[aT.sz,aT.aj,bD,aY,D.sz,List.length_map,aC.bY];omega
theorem DU{xs:List aT}{t:aT}(h:t∈xs):t.sz<=aN (xs.map aT.enc):=dx (List.mem_map_of_mem h)
theorem OD(v:List UInt8):∀(us:List ay)(out:List (List UInt8)),v∈us.foldl wS out<->v∈out\/0<us.countP (KU v)
 |[],out=>by simp
 |u::us,out=>by
  rw[List.foldl_cons,OD v us,List.countP_cons]
  have h:v∈wS out u<->v∈out\/KU v u=true:=by
   unfold wS KU;split
   ·rename_i h;simp only[List.mem_append,List.mem_singleton];constructor
    ·rintro(h1|h1)
     ·exact .inl h1
     ·right;simp[h1,h.1]
    ·rintro(h1|h1)
     ·exact .inl h1
     ·right;simp at h1;exact h1.2.symm
   ·rename_i h;constructor
    ·exact .inl
    ·rintro(h1|h1)
     ·exact h1
     ·simp at h1;by_cases e:u.fName∈out
      ·rw[<-h1.2];exact e
      ·exact absurd ⟨h1.1,e⟩ h
  rw[h]
  cases KU v u<;>simp
theorem Yv(v:List UInt8)(t:ay):occurs v t=dec (v∈jX [] t):=by
 unfold occurs jX oq;rw[rO];exact kX (by rw[OD];simp)
theorem Yw{t:ay}(h:qZ t=true):t.aV=1\/t.aV=2\/t.aV=3\/t.aV=4:=by
 have h1:=(gP h).1;rw[F9,Bool.and_eq_true] at h1;have h2:=gP h1.1;omega
theorem aa9{t:ay}(h:qK t=false):t.aV≠3:=by
 rw[Ep] at h;intro e;simp[e] at h
theorem mG(x:aP)(hsz:x.sz<=4194304):bg prog 125 [x.v] (.c (.d (.b (gK x)))):=fun S=>by
 have hs:=aP.sum x
 have hV:∀s∈x.aS,s.length<=4194304:=fun s h=>by have:=y8 h;omega
 have hW:∀b∈x.dS,b.sz<=4194304:=fun b h=>by have:=yt h;omega
 have hM:∀m∈x.bC,m.sz<=4194304:=fun m h=>by have:=DU h;omega
 have bad:x.bC.all sJ=false->V.c (.d (.b false))=V.c (.d (.b (gK x))):=fun h=>bN (by unfold gK;rw[h];simp);have no:BD x=false->V.c (.d (.b false))=V.c (.d (.b (gK x))):=fun h=>bN (by unfold gK;rw[h];rfl)
 have hk:iK x.aS x.dL=true->qK x.dL=false->(x.dL.aV=1\/x.dL.aV=2\/x.dL.aV=4):=fun h1 h2=>by
  unfold iK at h1;rw[Bool.and_eq_true] at h1;have:=Yw h1.1;have:=aa9 h2;omega
 refine zcx [.tmp 2] func125 ntmps125 ?_;simp -implicitDefEqProofs (disch:=omega) only[go_sem]
 repeat' (first
  |with_reducible refine aD (fun hb=> ?_) (fun hb=> ?_)<;>have h:=hb<;>(try simp only[wf_preprocess] at h)<;>simp -implicitDefEqProofs (disch:=omega) only[go_sem,hb]<;>(repeat(with_reducible refine And.intro ?_ ?_;focus first|omega|rfl|assumption|exact⟨_,rfl,rfl⟩|(simp;omega)|(simp;done)))
  |((with_reducible show iL _ _ 77 _ _ _ _);refine aB (gU x.bU (by omega)) ?_;simp -implicitDefEqProofs (disch:=omega) only[go_sem])
  |((with_reducible show iL _ _ 78 _ _ _ _);refine aB (kG x.aS 3 (by omega) hV) ?_;simp -implicitDefEqProofs (disch:=omega) only[go_sem])
  |((with_reducible show iL _ _ 160 _ _ _ _);refine aB (rQ x.dL x.aS (by omega) (by omega)) ?_;simp -implicitDefEqProofs (disch:=omega) only[go_sem])
  |((with_reducible show iL _ _ 161 _ _ _ _);refine aB (Dw x.dL (by omega)) ?_;simp -implicitDefEqProofs (disch:=omega) only[go_sem])
  |((with_reducible show iL _ _ 162 _ _ _ _);refine aB (I4 x.dS x.aS (by omega) hW (by omega)) ?_;simp -implicitDefEqProofs (disch:=omega) only[go_sem])
  |(refine no ?_;unfold BD;grind [gP,kF,dH,bM]))
 all_goals
  have h1:validName x.bU=true:=by assumption
  have h2:(dec ((x.aS.length:Int)<=3)&&iT x.aS)=true:=by assumption
  have h3:iK x.aS x.dL=true:=by assumption
  have h4:qK x.dL=false:=by assumption
  have h5:¬x.dL.aV=4:=by assumption
  have h6:rT x.aS x.dS=true:=by assumption
 have h7:=hk h3 h4;clear hk;rw[Bool.and_eq_true] at h2;have h8:=gP h2.1
 have pre:BD x=(among x.aS (jX [] x.dL)&&((if x.fM=true then iK x.aS x.bW else dec (BX x.bW))&&dec (x.bC.length<=6))):=by
  unfold BD;rw[h1,h2.2,h3,h4,h6,dH (show x.aS.length<=3 by omega),dH (show x.dL.aV=2\/x.dL.aV=1 by omega)]
  simp
 clear h1 h2 h3 h4 h5 h6 h7 h8
 refine bO (ι:=Nat) zmx rfl [1,3] (fun i=>[.c (.ptr (0,0) 0),.c (.d (.i .i64 i))]) (fun _=>[.box (x.enc.map .d)]::S)
  (fun i=>i<=x.aS.length/\among (x.aS.drop i) (jX [] x.dL)=among x.aS (jX [] x.dL)) (fun i=>x.aS.length-i) 0 rfl ?_ ⟨Nat.zero_le _,rfl⟩ ?_
 ·simp -implicitDefEqProofs (disch:=omega) only[go_sem]
 rintro i ⟨p1,p2⟩;simp -implicitDefEqProofs (disch:=omega) only[go_sem,encS]
 with_reducible refine aD (fun hb=> ?_) (fun hb=> ?_)<;>have h:=hb<;>(try simp only[wf_preprocess] at h)<;>simp -implicitDefEqProofs (disch:=omega) only[go_sem,hb,encS]<;>(repeat(with_reducible refine And.intro ?_ ?_;focus first|omega|rfl|assumption|exact⟨_,rfl,rfl⟩|(simp;omega)|(simp;done)))
 ·have hi:i<x.aS.length:=by omega
  rw[List.drop_eq_getElem_cons hi] at p2;have p3:among x.aS (jX [] x.dL)=(dec (x.aS[i]∈jX [] x.dL)&&among (x.aS.drop (i+1)) (jX [] x.dL)):=p2.symm
  (repeat(with_reducible refine And.intro ?_ ?_;focus first|omega|rfl|assumption|exact⟨_,rfl,rfl⟩|(simp;omega)|(simp;done)))
  refine aB (Ph x.aS[i] x.dL (by omega)) ?_;simp -implicitDefEqProofs (disch:=omega) only[go_sem]<;>(repeat(with_reducible refine And.intro ?_ ?_;focus first|omega|rfl|assumption|exact⟨_,rfl,rfl⟩|(simp;omega)|(simp;done)));rw[Yv]
  with_reducible refine aD (fun hb=> ?_) (fun hb=> ?_)<;>have h:=hb<;>(try simp only[wf_preprocess] at h)<;>simp -implicitDefEqProofs (disch:=omega) only[go_sem,hb]<;>(repeat(with_reducible refine And.intro ?_ ?_;focus first|omega|rfl|assumption|exact⟨_,rfl,rfl⟩|(simp;omega)|(simp;done)))
  ·exact no (by rw[pre,p3,bM h];rfl)
  ·exact cZ (i+1) (by omega) rfl rfl ⟨by omega,by rw[p3,dH h];rfl⟩
 rw[List.drop_of_length_le (by omega)] at p2;have p3:among x.aS (jX [] x.dL)=true:=p2.symm;rw[p3,Bool.true_and] at pre;refine(show Hold ((if x.fM=true then iK x.aS x.bW else dec (BX x.bW))=true-> ?T)->_ from fun tail=> ?main) ?tp
 case' main=>
  repeat' (first
   |with_reducible refine aD (fun hb=> ?_) (fun hb=> ?_)<;>have h:=hb<;>(try simp only[wf_preprocess] at h)<;>simp -implicitDefEqProofs (disch:=omega) only[go_sem,hb]<;>(repeat(with_reducible refine And.intro ?_ ?_;focus first|omega|rfl|assumption|exact⟨_,rfl,rfl⟩|(simp;omega)|(simp;done)))
   |((with_reducible show iL _ _ 160 _ _ _ _);refine aB (rQ x.bW x.aS (by omega) (by omega)) ?_;simp -implicitDefEqProofs (disch:=omega) only[go_sem])
   |((with_reducible show iL _ _ 164 _ _ _ _);refine aB (Li x.bW) ?_;simp -implicitDefEqProofs (disch:=omega) only[go_sem])
   |(refine no ?_;rw[pre];grind [gP,kF,dH,bM]))
  all_goals
   have hh:(if x.fM=true then iK x.aS x.bW else dec (BX x.bW))=true:=by grind [gP,kF,dH,bM]
   (repeat(with_reducible refine And.intro ?_ ?_;focus first|omega|rfl|assumption|exact⟨_,rfl,rfl⟩|(simp;omega)|(simp;done)))
   refine iZ 4 1 [] rfl (by simp) ?_;refine Bd (st':=[.box (x.enc.map .d),.tok 1 []]::S) [1,4,5] [.c (.ptr (0,0) 0),.c (.bS (0,1) []),.c (.d (.i .i64 0))] ?_ ?_ ?_
   ·rfl
   ·first|(simp -implicitDefEqProofs (disch:=omega) only[go_sem];done)|(simp -implicitDefEqProofs (disch:=omega) only[go_sem];simp[*])
   ·exact tail.out hh
 refine⟨fun hh=> ?_⟩;rw[hh,Bool.true_and] at pre;clear p2 p3 p1 hh no
 have aez:∀i,∀hi:i<x.bC.length,sJ x.bC[i]=false->V.c (.d (.b false))=V.c (.d (.b (gK x))):=fun i hi h=>bad (Bool.eq_false_iff.2 fun hx=>by
  rw[List.all_eq_true.1 hx _ (List.getElem_mem hi)] at h;cases h)
 refine bO (ι:=Nat×List (List UInt8)) zmx rfl [1,4,5] (fun y=>[.c (.ptr (0,0) 0),.c (.bS (0,1) (y.2.map encS)),.c (.d (.i .i64 y.1))]) (fun y=>[.box (x.enc.map .d),.tok 1 (y.2.map encS)]::S)
  (fun y=>y.1<=x.bC.length/\y.2=(rC x).take y.1/\∀j,∀hj:j<x.bC.length,j<y.1->sJ x.bC[j]=true) (fun y=>x.bC.length-y.1) (0,[]) rfl ?_ ⟨Nat.zero_le _,rfl,fun j _ h=>by simp only at h;omega⟩ ?_
 ·simp -implicitDefEqProofs (disch:=omega) only[go_sem]
 rintro⟨i,names⟩ ⟨p1,p2,p3⟩;simp only at p1 p2 p3
 have pl:names.length<=x.bC.length:=by rw[p2];simp[rC];omega
 simp -implicitDefEqProofs (disch:=omega) only[go_sem]
 with_reducible refine aD (fun hb=> ?_) (fun hb=> ?_)<;>have h:=hb<;>(try simp only[wf_preprocess] at h)<;>simp -implicitDefEqProofs (disch:=omega) only[go_sem,hb]<;>(repeat(with_reducible refine And.intro ?_ ?_;focus first|omega|rfl|assumption|exact⟨_,rfl,rfl⟩|(simp;omega)|(simp;done)))
 ·have hi:i<x.bC.length:=by omega
  have hm:=hM _ (List.getElem_mem hi);have hms:=aT.sum x.bC[i]
  have hmv:∀s∈x.bC[i].aS,s.length<=4194304:=fun s h=>by have:=y8 h;omega
  (repeat(with_reducible refine And.intro ?_ ?_;focus first|omega|rfl|assumption|exact⟨_,rfl,rfl⟩|(simp;omega)|(simp;done)))
  with_reducible refine aD (fun hb=> ?_) (fun hb=> ?_)<;>have h:=hb<;>(try simp only[wf_preprocess] at h)<;>simp -implicitDefEqProofs (disch:=omega) only[go_sem,hb]<;>(repeat(with_reducible refine And.intro ?_ ?_;focus first|omega|rfl|assumption|exact⟨_,rfl,rfl⟩|(simp;omega)|(simp;done)))
  ·exact aez i hi (by unfold sJ;rw[bM (by omega)];rfl)
  (repeat(with_reducible refine And.intro ?_ ?_;focus first|omega|rfl|assumption|exact⟨_,rfl,rfl⟩|(simp;omega)|(simp;done)))
  refine aB (kG x.bC[i].aS 5 (by omega) hmv) ?_;simp -implicitDefEqProofs (disch:=omega) only[go_sem]<;>(repeat(with_reducible refine And.intro ?_ ?_;focus first|omega|rfl|assumption|exact⟨_,rfl,rfl⟩|(simp;omega)|(simp;done)))
  with_reducible refine aD (fun hb=> ?_) (fun hb=> ?_)<;>have h:=hb<;>(try simp only[wf_preprocess] at h)<;>simp -implicitDefEqProofs (disch:=omega) only[go_sem,hb]<;>(repeat(with_reducible refine And.intro ?_ ?_;focus first|omega|rfl|assumption|exact⟨_,rfl,rfl⟩|(simp;omega)|(simp;done)))
  ·refine aez i hi ?_;unfold sJ nH
   have:(dec (x.bC[i].aS.length<=5)&&iT x.bC[i].aS)=false:=by
    rw[<-h];congr 1;exact kX ⟨fun h=>by omega,fun h=>by omega⟩
   rw[<-Bool.and_assoc (dec (x.bC[i].aS.length<=5)),this];simp
  have k1:=h;rw[Bool.and_eq_true] at k1;have k4:=gP k1.1
  (repeat(with_reducible refine And.intro ?_ ?_;focus first|omega|rfl|assumption|exact⟨_,rfl,rfl⟩|(simp;omega)|(simp;done)))
  refine aB (ED x.bC[i].aS x.bC[i].fBody (by omega) (by omega)) ?_;simp -implicitDefEqProofs (disch:=omega) only[go_sem]<;>(repeat(with_reducible refine And.intro ?_ ?_;focus first|omega|rfl|assumption|exact⟨_,rfl,rfl⟩|(simp;omega)|(simp;done)))
  with_reducible refine aD (fun hb=> ?_) (fun hb=> ?_)<;>have h:=hb<;>(try simp only[wf_preprocess] at h)<;>simp -implicitDefEqProofs (disch:=omega) only[go_sem,hb]<;>(repeat(with_reducible refine And.intro ?_ ?_;focus first|omega|rfl|assumption|exact⟨_,rfl,rfl⟩|(simp;omega)|(simp;done)))
  ·exact aez i hi (by unfold sJ nH;rw[h];simp)
  have k2:=h
  have k3:sJ x.bC[i]=true:=by unfold sJ nH;rw[k2,k1.2,dH (by omega),dH (by omega)];rfl
  (repeat(with_reducible refine And.intro ?_ ?_;focus first|omega|rfl|assumption|exact⟨_,rfl,rfl⟩|(simp;omega)|(simp;done)))
  rw[show List.map encS names++[[D.s x.bC[i].fName]]=List.map encS (names++[x.bC[i].fName]) by simp[encS]]
  exact dZ 2 (by decide) (i+1,names++[x.bC[i].fName]) (by simp only;omega) rfl rfl rfl rfl ⟨by simp only;omega,by simp only;rw[p2,jB (by simpa [rC] using hi)];simp[rC],fun j hj hji=>by
   simp only at hji;by_cases e:j=i
   ·subst e;exact k3
   ·exact p3 j hj (by omega)⟩
 have hi:i=x.bC.length:=by omega
 have hn:names=rC x:=by rw[p2,List.take_of_length_le (by simp[rC];omega)]
 have hall:x.bC.all sJ=true:=List.all_eq_true.2 fun c hc=>by
  obtain⟨j,hj,e⟩:=List.getElem_of_mem hc;rw[<-e];exact p3 j hj (by omega)
 have hnl:∀s∈names,s.length<=4194304:=fun s hm=>by
  rw[hn] at hm;obtain⟨g,hg,e⟩:=List.mem_map.1 hm;have:=hM g hg;have:=aT.sum g;rw[<-e];omega
 have hlen:names.length=x.bC.length:=by rw[hn];simp[rC]
 refine aB (kG names 6 (by omega) hnl) ?_;simp -implicitDefEqProofs (disch:=omega) only[go_sem]<;>(repeat(with_reducible refine And.intro ?_ ?_;focus first|omega|rfl|assumption|exact⟨_,rfl,rfl⟩|(simp;omega)|(simp;done)));refine bN ?_;unfold gK;rw[pre,hall,hn,Bool.true_and];congr 1;rw[<-hn,hlen];exact kX ⟨fun h=>by omega,fun h=>by omega⟩
def zO(P:Program)(N:Nat)(g:St->St):Nat->Code->(Exit->St->Prop)->St->Prop
 |0,c,Q,s=>CW P N c Q (g s)
 |k+1,.seq x y,Q,s=>CW P N x (jP (zO P N g k y Q) Q) s
 |_,_,_,_=>False
theorem aeA{P:Program}{N:Nat}{g:St->St}{c:Code}{Q:Exit->St->Prop}{s:St}:zO P N g 0 c Q s=CW P N c Q (g s):=by rw[zO]
theorem BF{P:Program}{N k:Nat}{g:St->St}{x y:Code}{Q:Exit->St->Prop}{s:St}:zO P N g (k+1) (.seq x y) Q s=CW P N x (jP (zO P N g k y Q) Q) s:=by rw[zO]
theorem aeB{P:Program}{N:Nat}{g:St->St}{x y:Code}{Q:Exit->St->Prop}{s:St}:zO P N g 5 (.seq x y) Q s=CW P N x (jP (zO P N g 4 y Q) Q) s:=BF
theorem aeC{P:Program}{N:Nat}{g:St->St}{x y:Code}{Q:Exit->St->Prop}{s:St}:zO P N g 4 (.seq x y) Q s=CW P N x (jP (zO P N g 3 y Q) Q) s:=BF
theorem abb{P:Program}{N:Nat}{g:St->St}{x y:Code}{Q:Exit->St->Prop}{s:St}:zO P N g 3 (.seq x y) Q s=CW P N x (jP (zO P N g 2 y Q) Q) s:=BF
theorem ahd{P:Program}{N:Nat}{g:St->St}{x y:Code}{Q:Exit->St->Prop}{s:St}:zO P N g 2 (.seq x y) Q s=CW P N x (jP (zO P N g 1 y Q) Q) s:=BF
theorem ahe{P:Program}{N:Nat}{g:St->St}{x y:Code}{Q:Exit->St->Prop}{s:St}:zO P N g 1 (.seq x y) Q s=CW P N x (jP (zO P N g 0 y Q) Q) s:=BF
attribute [go_sem] aeA aeB aeC abb ahd ahe
def tO:List UInt8:=[105,110,115,116]
def qx:List UInt8:=[100,101,102,97,117,108,116]
def oK(x:aP):List (List UInt8):=if x.iR=true then [qx] else []
def nK(x:aP):List au:=if x.fM=true then [dR x.bW] else []
def oL(m:aT):au:=eD [bR m.fName,eD (dn m.aS),fQ m.fBody]
def nR(x:aP):List au:=[bR tO,bR x.bU,eD (dn x.aS),dR x.dL,eD (x.dS.map w9),eD (dn (oK x)),eD (nK x)]
def xM(x:aP):au:=eD (nR x++x.bC.map oL)
noncomputable def Sr(x:aP):au:=uw (gK x) (xM x)
theorem ahf{x:aP}(h:x.sz<=1048576):(Sr x).sz<=1048576:=Nat.le_trans (Ib _ _) (by decide)
theorem ahg(m:aT)(hok:jd m.fBody=true):(oL m).sz<=27+32*m.sz:=by
 have h1:=Gu m.fBody hok;have h3:=aT.sum m;rw[eB] at h3;rw[oL,jg];simp[dK,jf,jg,kZ,pJ];omega
theorem Sv:∀l:List aT,(∀g∈l,jd g.fBody=true)->dK (l.map oL)<=27*l.length+32*aN (l.map aT.enc)
 |[],_=>by simp[dK]
 |c::l,h=>by
  have h1:=ahg c (h c (List.mem_cons_self ..));have h2:=Sv l fun g hg=>h g (List.mem_cons_of_mem _ hg);rw[List.map_cons,dK,List.map_cons,aN,List.length_cons];simp only[aT.sz] at h1;omega
theorem nC{x:aP}(h:gK x=true):formed x.dL=true/\(∀b∈x.dS,formed b.fType=true)/\(x.fM=true->formed x.bW=true)/\(∀m∈x.bC,jd m.fBody=true):=by
 unfold gK BD at h;simp only[Bool.and_eq_true] at h;obtain⟨⟨_,_,_,h1,_,_,_,h2,h3,_⟩,h4,_⟩:=h;refine⟨tK h1,zN h2,fun ha=> ?_,fun m hm=> ?_⟩
 ·rw[if_pos ha] at h3;exact tK h3
 ·have h5:=List.all_eq_true.1 h4 m hm;unfold sJ at h5;simp only[Bool.and_eq_true] at h5;exact Cb h5.2.2
theorem LQ{x:aP}(hok:gK x=true):(xM x).sz<=96+40*x.sz:=by
 obtain⟨_,_,_,hm⟩:=nC hok;have h1:=Sv x.bC hm;have h2:=Na x.dS;have h3:=aP.sum x;have h4:=y9 x.dL;have h5:=y9 x.bW
 have h6:(oK x).length<=1/\((oK x).map List.length).sum<=7:=by unfold oK;split<;>simp[qx]
 have h7:(nK x).length<=1/\dK (nK x)<=(dR x.bW).sz:=by unfold nK;split<;>simp[dK]
 rw[eB] at h3;rw[xM,jg,jY,List.length_append,List.length_map];simp[nR,dK,jf,jg,kZ,pJ,tO];omega
theorem aeD(x:aP)(hv:gK x=true)(hsz:x.sz<=1048576)(ha:x.iR=true)(hs:x.fM=true):bg prog 257 [x.v] (Bg (xM x)).v:=fun S=>by
 have hdz:=aP.sum x;rw[eB] at hdz;obtain⟨hf1,hf2,hf3,I5⟩:=nC hv;have hz:=LQ hv
 have hfl:oK x=[qx]:=by unfold oK;rw[ha];rfl
 have has:nK x=[dR x.bW]:=by unfold nK;rw[hs];rfl
 obtain⟨T,hT⟩:∃T:Nat->List (List D),T=fun i=>(nR x++(x.bC.map oL).take i).map au.enc:=⟨_,rfl⟩
 have hT0:T 0=[[.s tO,.sl []],[.s x.bU,.sl []],[.s [],.sl ((dn x.aS).map au.enc)],[.s (dR x.dL).bK,.sl ((dR x.dL).aA.map au.enc)],[.s [],.sl ((x.dS.map w9).map au.enc)],[.s [],.sl ((dn [qx]).map au.enc)],[.s [],.sl [[.s (dR x.bW).bK,.sl ((dR x.bW).aA.map au.enc)]]]]:=by
  rw[hT];simp only[List.take_zero,List.append_nil,nR,hfl,has,List.map_cons,List.map_nil,eY,jl,au.aj (dR x.dL),au.aj (dR x.bW)]
 have iG:∀i,(T i).length<=i+7:=fun i=>by
  rw[hT];simp only[List.length_map,List.length_append];have:=List.length_take_le i (x.bC.map oL);simp[nR];omega
 have hTs:∀i (hi:i<x.bC.length),T i++[[.s [],.sl [[.s x.bC[i].fName,.sl []],[.s [],.sl ((dn x.bC[i].aS).map au.enc)],[.s (fQ x.bC[i].fBody).bK,.sl ((fQ x.bC[i].fBody).aA.map au.enc)]]]]=T (i+1):=fun i hi=>by
  have:=iP (base:=nR x) (l:=x.bC.map oL) (i:=i) (by rw[List.length_map];exact hi);rw[List.getElem_map,oL,lI,iy] at this;simp only[List.map_cons,List.map_nil,eY,jl,au.aj (fQ x.bC[i].fBody)] at this;rw[hT];exact this
 have hTr:∀i,∀r∈T i,r.length=2:=fun i=>by rw[hT];exact jk
 have hTe:T x.bC.length=(xM x).aA.map au.enc:=by
  rw[hT];simp only
  rw[List.take_of_length_le (by simp)];rfl
 clear hT;refine zcx [.cell 2 202] func257 ntmps257 ?_;simp -implicitDefEqProofs (disch:=omega) only[go_sem];refine aB (mG x (by omega)) ?_;simp -implicitDefEqProofs (disch:=omega) only[go_sem,hv,ha,hs]
 (repeat(with_reducible refine And.intro ?_ ?_;focus first|omega|rfl|assumption|exact⟨_,rfl,rfl⟩|(simp;omega)|(simp;done)))
 refine aB (ku x.bW (by omega)) ?_;simp -implicitDefEqProofs (disch:=omega) only[go_sem]
 (repeat(with_reducible refine And.intro ?_ ?_;focus first|omega|rfl|assumption|exact⟨_,rfl,rfl⟩|(simp;omega)|(simp;done)))
 refine aB (lF _ (by simp) (by simp)) ?_;simp -implicitDefEqProofs (disch:=omega) only[go_sem]
 (repeat(with_reducible refine And.intro ?_ ?_;focus first|omega|rfl|assumption|exact⟨_,rfl,rfl⟩|(simp;omega)|(simp;done)))
 refine aB (bT _) ?_;simp -implicitDefEqProofs (disch:=omega) only[go_sem];refine aB (bT _) ?_;simp -implicitDefEqProofs (disch:=omega) only[go_sem];refine aB (dY x.aS (by omega)) ?_;simp -implicitDefEqProofs (disch:=omega) only[go_sem];refine aB (ku x.dL (by omega)) ?_;simp -implicitDefEqProofs (disch:=omega) only[go_sem];refine aB (uG x.dS (by omega) (fun b hb=>by have:=yt hb;omega)) ?_;simp -implicitDefEqProofs (disch:=omega) only[go_sem];refine aB (dY [qx] (by simp)) ?_;simp -implicitDefEqProofs (disch:=omega) only[go_sem];have hE:=fun cK Ω=>jT (T 0) (hTr 0) (by have:=iG 0;omega) cK Ω;simp only[hT0] at hE;refine bZ [false] rfl (hE _ _) ?_;simp -implicitDefEqProofs (disch:=omega) only[go_sem]
 refine bO (ι:=Nat) zmx rfl [1,2,5,6] (fun i=>[.c (.ptr (0,0) 0),.c (.ptr (0,1) 0),.c (.ptr (0,6) 0),.c (.d (.i .i64 i))])
  (fun i=>[.box [.d (.s x.bU),.d (.sl (x.aS.map encS)),.d (.i .i64 x.dL.aV),.d (.s x.dL.fName),.d (.sl (x.dL.fArgs.map ay.enc)),.d (.sl (x.dS.map aU.enc)),.d (.b true),.d (.b true),.d (.i .i64 x.bW.aV),.d (.s x.bW.fName),.d (.sl (x.bW.fArgs.map ay.enc)),.d (.sl (x.bC.map aT.enc))],.box [.d (.s []),.bI []],.tok 1 [[.s qx]],.box [.d (.s []),.d (.sl [[.s (dR x.bW).bK,.sl ((dR x.bW).aA.map au.enc)]])],.box [.d (.s []),.bS (0,5) (T 0)],.tok 2 (T i),.box [.d (.s []),.bS (0,5) (T i)]]::S)
  (fun i=>i<=x.bC.length) (fun i=>x.bC.length-i) 0 rfl (by simp only[hT0]<;>(try rfl)) (Nat.zero_le _) ?_
 intro i hi;have hl:=iG i;simp -implicitDefEqProofs (disch:=omega) only[go_sem]
 with_reducible refine aD (fun hb=> ?_) (fun hb=> ?_)<;>have h:=hb<;>(try simp only[wf_preprocess] at h)<;>simp -implicitDefEqProofs (disch:=omega) only[go_sem,hb]<;>(repeat(with_reducible refine And.intro ?_ ?_;focus first|omega|rfl|assumption|exact⟨_,rfl,rfl⟩|(simp;omega)|(simp;done)))
 ·have hi':i<x.bC.length:=by omega
  have hm:=List.getElem_mem hi';have hcz:=DU hm;have hce:=aT.sum x.bC[i];rw[eB] at hce;have hst:=hTs i hi'
  (repeat(with_reducible refine And.intro ?_ ?_;focus first|omega|rfl|assumption|exact⟨_,rfl,rfl⟩|(simp;omega)|(simp;done)))
  refine aB (bT _) ?_;simp -implicitDefEqProofs (disch:=omega) only[go_sem];refine aB (dY x.bC[i].aS (by omega)) ?_;simp -implicitDefEqProofs (disch:=omega) only[go_sem];refine aB (rA x.bC[i].fBody (I5 _ hm) (by omega)) ?_;simp -implicitDefEqProofs (disch:=omega) only[go_sem];refine aB (lF _ (by simp) (by simp)) ?_;simp -implicitDefEqProofs (disch:=omega) only[go_sem]
  (repeat(with_reducible refine And.intro ?_ ?_;focus first|omega|rfl|assumption|exact⟨_,rfl,rfl⟩|(simp;omega)|(simp;done)))
  rw[hst];exact dZ 7 (by decide) (i+1) (by omega) rfl rfl rfl rfl (by omega)
 ·have hi':i=x.bC.length:=by omega
  subst hi';rw[hTe];refine aB (pQ true (xM x) (by omega)) ?_;simp -implicitDefEqProofs (disch:=omega) only[go_sem];rfl
theorem aeE(x:aP)(hv:gK x=true)(hsz:x.sz<=1048576)(ha:x.iR=true)(hs:x.fM=false):bg prog 257 [x.v] (Bg (xM x)).v:=fun S=>by
 have hdz:=aP.sum x;rw[eB] at hdz;obtain⟨hf1,hf2,hf3,I5⟩:=nC hv;have hz:=LQ hv
 have hfl:oK x=[qx]:=by unfold oK;rw[ha];rfl
 have has:nK x=[]:=by unfold nK;rw[hs];rfl
 obtain⟨T,hT⟩:∃T:Nat->List (List D),T=fun i=>(nR x++(x.bC.map oL).take i).map au.enc:=⟨_,rfl⟩
 have hT0:T 0=[[.s tO,.sl []],[.s x.bU,.sl []],[.s [],.sl ((dn x.aS).map au.enc)],[.s (dR x.dL).bK,.sl ((dR x.dL).aA.map au.enc)],[.s [],.sl ((x.dS.map w9).map au.enc)],[.s [],.sl ((dn [qx]).map au.enc)],[.s [],.sl []]]:=by
  rw[hT];simp only[List.take_zero,List.append_nil,nR,hfl,has,List.map_cons,List.map_nil,eY,jl,au.aj (dR x.dL),au.aj (dR x.bW)]
 have iG:∀i,(T i).length<=i+7:=fun i=>by
  rw[hT];simp only[List.length_map,List.length_append];have:=List.length_take_le i (x.bC.map oL);simp[nR];omega
 have hTs:∀i (hi:i<x.bC.length),T i++[[.s [],.sl [[.s x.bC[i].fName,.sl []],[.s [],.sl ((dn x.bC[i].aS).map au.enc)],[.s (fQ x.bC[i].fBody).bK,.sl ((fQ x.bC[i].fBody).aA.map au.enc)]]]]=T (i+1):=fun i hi=>by
  have:=iP (base:=nR x) (l:=x.bC.map oL) (i:=i) (by rw[List.length_map];exact hi);rw[List.getElem_map,oL,lI,iy] at this;simp only[List.map_cons,List.map_nil,eY,jl,au.aj (fQ x.bC[i].fBody)] at this;rw[hT];exact this
 have hTr:∀i,∀r∈T i,r.length=2:=fun i=>by rw[hT];exact jk
 have hTe:T x.bC.length=(xM x).aA.map au.enc:=by
  rw[hT];simp only
  rw[List.take_of_length_le (by simp)];rfl
 clear hT;refine zcx [.cell 2 202] func257 ntmps257 ?_;simp -implicitDefEqProofs (disch:=omega) only[go_sem];refine aB (mG x (by omega)) ?_;simp -implicitDefEqProofs (disch:=omega) only[go_sem,hv,ha,hs]
 (repeat(with_reducible refine And.intro ?_ ?_;focus first|omega|rfl|assumption|exact⟨_,rfl,rfl⟩|(simp;omega)|(simp;done)))
 refine aB (bT _) ?_;simp -implicitDefEqProofs (disch:=omega) only[go_sem];refine aB (bT _) ?_;simp -implicitDefEqProofs (disch:=omega) only[go_sem];refine aB (dY x.aS (by omega)) ?_;simp -implicitDefEqProofs (disch:=omega) only[go_sem];refine aB (ku x.dL (by omega)) ?_;simp -implicitDefEqProofs (disch:=omega) only[go_sem];refine aB (uG x.dS (by omega) (fun b hb=>by have:=yt hb;omega)) ?_;simp -implicitDefEqProofs (disch:=omega) only[go_sem];refine aB (dY [qx] (by simp)) ?_;simp -implicitDefEqProofs (disch:=omega) only[go_sem];have hE:=fun cK Ω=>jT (T 0) (hTr 0) (by have:=iG 0;omega) cK Ω;simp only[hT0] at hE;refine bZ [false] rfl (hE _ _) ?_;simp -implicitDefEqProofs (disch:=omega) only[go_sem]
 refine bO (ι:=Nat) zmx rfl [1,2,5,6] (fun i=>[.c (.ptr (0,0) 0),.c (.ptr (0,1) 0),.c (.ptr (0,6) 0),.c (.d (.i .i64 i))])
  (fun i=>[.box [.d (.s x.bU),.d (.sl (x.aS.map encS)),.d (.i .i64 x.dL.aV),.d (.s x.dL.fName),.d (.sl (x.dL.fArgs.map ay.enc)),.d (.sl (x.dS.map aU.enc)),.d (.b true),.d (.b false),.d (.i .i64 x.bW.aV),.d (.s x.bW.fName),.d (.sl (x.bW.fArgs.map ay.enc)),.d (.sl (x.bC.map aT.enc))],.box [.d (.s []),.bI []],.tok 1 [[.s qx]],.box [.d (.s []),.bI []],.box [.d (.s []),.bS (0,5) (T 0)],.tok 2 (T i),.box [.d (.s []),.bS (0,5) (T i)]]::S)
  (fun i=>i<=x.bC.length) (fun i=>x.bC.length-i) 0 rfl (by simp only[hT0]<;>(try rfl)) (Nat.zero_le _) ?_
 intro i hi;have hl:=iG i;simp -implicitDefEqProofs (disch:=omega) only[go_sem]
 with_reducible refine aD (fun hb=> ?_) (fun hb=> ?_)<;>have h:=hb<;>(try simp only[wf_preprocess] at h)<;>simp -implicitDefEqProofs (disch:=omega) only[go_sem,hb]<;>(repeat(with_reducible refine And.intro ?_ ?_;focus first|omega|rfl|assumption|exact⟨_,rfl,rfl⟩|(simp;omega)|(simp;done)))
 ·have hi':i<x.bC.length:=by omega
  have hm:=List.getElem_mem hi';have hcz:=DU hm;have hce:=aT.sum x.bC[i];rw[eB] at hce;have hst:=hTs i hi'
  (repeat(with_reducible refine And.intro ?_ ?_;focus first|omega|rfl|assumption|exact⟨_,rfl,rfl⟩|(simp;omega)|(simp;done)))
  refine aB (bT _) ?_;simp -implicitDefEqProofs (disch:=omega) only[go_sem];refine aB (dY x.bC[i].aS (by omega)) ?_;simp -implicitDefEqProofs (disch:=omega) only[go_sem];refine aB (rA x.bC[i].fBody (I5 _ hm) (by omega)) ?_;simp -implicitDefEqProofs (disch:=omega) only[go_sem];refine aB (lF _ (by simp) (by simp)) ?_;simp -implicitDefEqProofs (disch:=omega) only[go_sem]
  (repeat(with_reducible refine And.intro ?_ ?_;focus first|omega|rfl|assumption|exact⟨_,rfl,rfl⟩|(simp;omega)|(simp;done)))
  rw[hst];exact dZ 7 (by decide) (i+1) (by omega) rfl rfl rfl rfl (by omega)
 ·have hi':i=x.bC.length:=by omega
  subst hi';rw[hTe];refine aB (pQ true (xM x) (by omega)) ?_;simp -implicitDefEqProofs (disch:=omega) only[go_sem];rfl
theorem aeF(x:aP)(hv:gK x=true)(hsz:x.sz<=1048576)(ha:x.iR=false)(hs:x.fM=true):bg prog 257 [x.v] (Bg (xM x)).v:=fun S=>by
 have hdz:=aP.sum x;rw[eB] at hdz;obtain⟨hf1,hf2,hf3,I5⟩:=nC hv;have hz:=LQ hv
 have hfl:oK x=[]:=by unfold oK;rw[ha];rfl
 have has:nK x=[dR x.bW]:=by unfold nK;rw[hs];rfl
 obtain⟨T,hT⟩:∃T:Nat->List (List D),T=fun i=>(nR x++(x.bC.map oL).take i).map au.enc:=⟨_,rfl⟩
 have hT0:T 0=[[.s tO,.sl []],[.s x.bU,.sl []],[.s [],.sl ((dn x.aS).map au.enc)],[.s (dR x.dL).bK,.sl ((dR x.dL).aA.map au.enc)],[.s [],.sl ((x.dS.map w9).map au.enc)],[.s [],.sl ((dn []).map au.enc)],[.s [],.sl [[.s (dR x.bW).bK,.sl ((dR x.bW).aA.map au.enc)]]]]:=by
  rw[hT];simp only[List.take_zero,List.append_nil,nR,hfl,has,List.map_cons,List.map_nil,eY,jl,au.aj (dR x.dL),au.aj (dR x.bW)]
 have iG:∀i,(T i).length<=i+7:=fun i=>by
  rw[hT];simp only[List.length_map,List.length_append];have:=List.length_take_le i (x.bC.map oL);simp[nR];omega
 have hTs:∀i (hi:i<x.bC.length),T i++[[.s [],.sl [[.s x.bC[i].fName,.sl []],[.s [],.sl ((dn x.bC[i].aS).map au.enc)],[.s (fQ x.bC[i].fBody).bK,.sl ((fQ x.bC[i].fBody).aA.map au.enc)]]]]=T (i+1):=fun i hi=>by
  have:=iP (base:=nR x) (l:=x.bC.map oL) (i:=i) (by rw[List.length_map];exact hi);rw[List.getElem_map,oL,lI,iy] at this;simp only[List.map_cons,List.map_nil,eY,jl,au.aj (fQ x.bC[i].fBody)] at this;rw[hT];exact this
 have hTr:∀i,∀r∈T i,r.length=2:=fun i=>by rw[hT];exact jk
 have hTe:T x.bC.length=(xM x).aA.map au.enc:=by
  rw[hT];simp only
  rw[List.take_of_length_le (by simp)];rfl
 clear hT;refine zcx [.cell 2 202] func257 ntmps257 ?_;simp -implicitDefEqProofs (disch:=omega) only[go_sem];refine aB (mG x (by omega)) ?_;simp -implicitDefEqProofs (disch:=omega) only[go_sem,hv,ha,hs]
 (repeat(with_reducible refine And.intro ?_ ?_;focus first|omega|rfl|assumption|exact⟨_,rfl,rfl⟩|(simp;omega)|(simp;done)))
 refine aB (ku x.bW (by omega)) ?_;simp -implicitDefEqProofs (disch:=omega) only[go_sem]
 (repeat(with_reducible refine And.intro ?_ ?_;focus first|omega|rfl|assumption|exact⟨_,rfl,rfl⟩|(simp;omega)|(simp;done)))
 refine aB (lF _ (by simp) (by simp)) ?_;simp -implicitDefEqProofs (disch:=omega) only[go_sem]
 (repeat(with_reducible refine And.intro ?_ ?_;focus first|omega|rfl|assumption|exact⟨_,rfl,rfl⟩|(simp;omega)|(simp;done)))
 refine aB (bT _) ?_;simp -implicitDefEqProofs (disch:=omega) only[go_sem];refine aB (bT _) ?_;simp -implicitDefEqProofs (disch:=omega) only[go_sem];refine aB (dY x.aS (by omega)) ?_;simp -implicitDefEqProofs (disch:=omega) only[go_sem];refine aB (ku x.dL (by omega)) ?_;simp -implicitDefEqProofs (disch:=omega) only[go_sem];refine aB (uG x.dS (by omega) (fun b hb=>by have:=yt hb;omega)) ?_;simp -implicitDefEqProofs (disch:=omega) only[go_sem];refine aB (dY [] (by simp)) ?_;simp -implicitDefEqProofs (disch:=omega) only[go_sem];have hE:=fun cK Ω=>jT (T 0) (hTr 0) (by have:=iG 0;omega) cK Ω;simp only[hT0] at hE;refine bZ [false] rfl (hE _ _) ?_;simp -implicitDefEqProofs (disch:=omega) only[go_sem]
 refine bO (ι:=Nat) zmx rfl [1,2,5,6] (fun i=>[.c (.ptr (0,0) 0),.c (.ptr (0,1) 0),.c (.ptr (0,5) 0),.c (.d (.i .i64 i))])
  (fun i=>[.box [.d (.s x.bU),.d (.sl (x.aS.map encS)),.d (.i .i64 x.dL.aV),.d (.s x.dL.fName),.d (.sl (x.dL.fArgs.map ay.enc)),.d (.sl (x.dS.map aU.enc)),.d (.b false),.d (.b true),.d (.i .i64 x.bW.aV),.d (.s x.bW.fName),.d (.sl (x.bW.fArgs.map ay.enc)),.d (.sl (x.bC.map aT.enc))],.box [.d (.s []),.bI []],.box [.d (.s []),.d (.sl [[.s (dR x.bW).bK,.sl ((dR x.bW).aA.map au.enc)]])],.box [.d (.s []),.bS (0,4) (T 0)],.tok 2 (T i),.box [.d (.s []),.bS (0,4) (T i)]]::S)
  (fun i=>i<=x.bC.length) (fun i=>x.bC.length-i) 0 rfl (by simp only[hT0]<;>(try rfl)) (Nat.zero_le _) ?_
 intro i hi;have hl:=iG i;simp -implicitDefEqProofs (disch:=omega) only[go_sem]
 with_reducible refine aD (fun hb=> ?_) (fun hb=> ?_)<;>have h:=hb<;>(try simp only[wf_preprocess] at h)<;>simp -implicitDefEqProofs (disch:=omega) only[go_sem,hb]<;>(repeat(with_reducible refine And.intro ?_ ?_;focus first|omega|rfl|assumption|exact⟨_,rfl,rfl⟩|(simp;omega)|(simp;done)))
 ·have hi':i<x.bC.length:=by omega
  have hm:=List.getElem_mem hi';have hcz:=DU hm;have hce:=aT.sum x.bC[i];rw[eB] at hce;have hst:=hTs i hi'
  (repeat(with_reducible refine And.intro ?_ ?_;focus first|omega|rfl|assumption|exact⟨_,rfl,rfl⟩|(simp;omega)|(simp;done)))
  refine aB (bT _) ?_;simp -implicitDefEqProofs (disch:=omega) only[go_sem];refine aB (dY x.bC[i].aS (by omega)) ?_;simp -implicitDefEqProofs (disch:=omega) only[go_sem];refine aB (rA x.bC[i].fBody (I5 _ hm) (by omega)) ?_;simp -implicitDefEqProofs (disch:=omega) only[go_sem];refine aB (lF _ (by simp) (by simp)) ?_;simp -implicitDefEqProofs (disch:=omega) only[go_sem]
  (repeat(with_reducible refine And.intro ?_ ?_;focus first|omega|rfl|assumption|exact⟨_,rfl,rfl⟩|(simp;omega)|(simp;done)))
  rw[hst];exact dZ 6 (by decide) (i+1) (by omega) rfl rfl rfl rfl (by omega)
 ·have hi':i=x.bC.length:=by omega
  subst hi';rw[hTe];refine aB (pQ true (xM x) (by omega)) ?_;simp -implicitDefEqProofs (disch:=omega) only[go_sem];rfl
theorem aeG(x:aP)(hv:gK x=true)(hsz:x.sz<=1048576)(ha:x.iR=false)(hs:x.fM=false):bg prog 257 [x.v] (Bg (xM x)).v:=fun S=>by
 have hdz:=aP.sum x;rw[eB] at hdz;obtain⟨hf1,hf2,hf3,I5⟩:=nC hv;have hz:=LQ hv
 have hfl:oK x=[]:=by unfold oK;rw[ha];rfl
 have has:nK x=[]:=by unfold nK;rw[hs];rfl
 obtain⟨T,hT⟩:∃T:Nat->List (List D),T=fun i=>(nR x++(x.bC.map oL).take i).map au.enc:=⟨_,rfl⟩
 have hT0:T 0=[[.s tO,.sl []],[.s x.bU,.sl []],[.s [],.sl ((dn x.aS).map au.enc)],[.s (dR x.dL).bK,.sl ((dR x.dL).aA.map au.enc)],[.s [],.sl ((x.dS.map w9).map au.enc)],[.s [],.sl ((dn []).map au.enc)],[.s [],.sl []]]:=by
  rw[hT];simp only[List.take_zero,List.append_nil,nR,hfl,has,List.map_cons,List.map_nil,eY,jl,au.aj (dR x.dL),au.aj (dR x.bW)]
 have iG:∀i,(T i).length<=i+7:=fun i=>by
  rw[hT];simp only[List.length_map,List.length_append];have:=List.length_take_le i (x.bC.map oL);simp[nR];omega
 have hTs:∀i (hi:i<x.bC.length),T i++[[.s [],.sl [[.s x.bC[i].fName,.sl []],[.s [],.sl ((dn x.bC[i].aS).map au.enc)],[.s (fQ x.bC[i].fBody).bK,.sl ((fQ x.bC[i].fBody).aA.map au.enc)]]]]=T (i+1):=fun i hi=>by
  have:=iP (base:=nR x) (l:=x.bC.map oL) (i:=i) (by rw[List.length_map];exact hi);rw[List.getElem_map,oL,lI,iy] at this;simp only[List.map_cons,List.map_nil,eY,jl,au.aj (fQ x.bC[i].fBody)] at this;rw[hT];exact this
 have hTr:∀i,∀r∈T i,r.length=2:=fun i=>by rw[hT];exact jk
 have hTe:T x.bC.length=(xM x).aA.map au.enc:=by
  rw[hT];simp only
  rw[List.take_of_length_le (by simp)];rfl
 clear hT;refine zcx [.cell 2 202] func257 ntmps257 ?_;simp -implicitDefEqProofs (disch:=omega) only[go_sem];refine aB (mG x (by omega)) ?_;simp -implicitDefEqProofs (disch:=omega) only[go_sem,hv,ha,hs]
 (repeat(with_reducible refine And.intro ?_ ?_;focus first|omega|rfl|assumption|exact⟨_,rfl,rfl⟩|(simp;omega)|(simp;done)))
 refine aB (bT _) ?_;simp -implicitDefEqProofs (disch:=omega) only[go_sem];refine aB (bT _) ?_;simp -implicitDefEqProofs (disch:=omega) only[go_sem];refine aB (dY x.aS (by omega)) ?_;simp -implicitDefEqProofs (disch:=omega) only[go_sem];refine aB (ku x.dL (by omega)) ?_;simp -implicitDefEqProofs (disch:=omega) only[go_sem];refine aB (uG x.dS (by omega) (fun b hb=>by have:=yt hb;omega)) ?_;simp -implicitDefEqProofs (disch:=omega) only[go_sem];refine aB (dY [] (by simp)) ?_;simp -implicitDefEqProofs (disch:=omega) only[go_sem];have hE:=fun cK Ω=>jT (T 0) (hTr 0) (by have:=iG 0;omega) cK Ω;simp only[hT0] at hE;refine bZ [false] rfl (hE _ _) ?_;simp -implicitDefEqProofs (disch:=omega) only[go_sem]
 refine bO (ι:=Nat) zmx rfl [1,2,5,6] (fun i=>[.c (.ptr (0,0) 0),.c (.ptr (0,1) 0),.c (.ptr (0,5) 0),.c (.d (.i .i64 i))])
  (fun i=>[.box [.d (.s x.bU),.d (.sl (x.aS.map encS)),.d (.i .i64 x.dL.aV),.d (.s x.dL.fName),.d (.sl (x.dL.fArgs.map ay.enc)),.d (.sl (x.dS.map aU.enc)),.d (.b false),.d (.b false),.d (.i .i64 x.bW.aV),.d (.s x.bW.fName),.d (.sl (x.bW.fArgs.map ay.enc)),.d (.sl (x.bC.map aT.enc))],.box [.d (.s []),.bI []],.box [.d (.s []),.bI []],.box [.d (.s []),.bS (0,4) (T 0)],.tok 2 (T i),.box [.d (.s []),.bS (0,4) (T i)]]::S)
  (fun i=>i<=x.bC.length) (fun i=>x.bC.length-i) 0 rfl (by simp only[hT0]<;>(try rfl)) (Nat.zero_le _) ?_
 intro i hi;have hl:=iG i;simp -implicitDefEqProofs (disch:=omega) only[go_sem]
 with_reducible refine aD (fun hb=> ?_) (fun hb=> ?_)<;>have h:=hb<;>(try simp only[wf_preprocess] at h)<;>simp -implicitDefEqProofs (disch:=omega) only[go_sem,hb]<;>(repeat(with_reducible refine And.intro ?_ ?_;focus first|omega|rfl|assumption|exact⟨_,rfl,rfl⟩|(simp;omega)|(simp;done)))
 ·have hi':i<x.bC.length:=by omega
  have hm:=List.getElem_mem hi';have hcz:=DU hm;have hce:=aT.sum x.bC[i];rw[eB] at hce;have hst:=hTs i hi'
  (repeat(with_reducible refine And.intro ?_ ?_;focus first|omega|rfl|assumption|exact⟨_,rfl,rfl⟩|(simp;omega)|(simp;done)))
  refine aB (bT _) ?_;simp -implicitDefEqProofs (disch:=omega) only[go_sem];refine aB (dY x.bC[i].aS (by omega)) ?_;simp -implicitDefEqProofs (disch:=omega) only[go_sem];refine aB (rA x.bC[i].fBody (I5 _ hm) (by omega)) ?_;simp -implicitDefEqProofs (disch:=omega) only[go_sem];refine aB (lF _ (by simp) (by simp)) ?_;simp -implicitDefEqProofs (disch:=omega) only[go_sem]
  (repeat(with_reducible refine And.intro ?_ ?_;focus first|omega|rfl|assumption|exact⟨_,rfl,rfl⟩|(simp;omega)|(simp;done)))
  rw[hst];exact dZ 6 (by decide) (i+1) (by omega) rfl rfl rfl rfl (by omega)
 ·have hi':i=x.bC.length:=by omega
  subst hi';rw[hTe];refine aB (pQ true (xM x) (by omega)) ?_;simp -implicitDefEqProofs (disch:=omega) only[go_sem];rfl
theorem aeH(x:aP)(hsz:x.sz<=1048576):bg prog 257 [x.v] (Sr x).v:=by
 unfold Sr
 cases hv:gK x with
 |false=>
  rw[uw];refine bg.less (fun S=> ?_) (DC [] []);refine zcx [.cell 2 202] func257 ntmps257 ?_;simp -implicitDefEqProofs (disch:=omega) only[go_sem];refine aB (mG x (by omega)) ?_;simp -implicitDefEqProofs (disch:=omega) only[go_sem,hv]
 |true=>
  rw[uw]
  cases ha:x.iR with
  |true=>
   cases hs:x.fM with
   |true=>exact aeD x hv hsz ha hs
   |false=>exact aeE x hv hsz ha hs
  |false=>
   cases hs:x.fM with
   |true=>exact aeF x hv hsz ha hs
   |false=>exact aeG x hv hsz ha hs
end Go.Ab