/-
  SEVERAL TEXTS IN ONE (merged by program): contracts and models, each with its own heading.
-/
import Derived.Test.YtnmjbebcebbmfaaGreatPartHibF
set_option maxHeartbeats 8000000
open Go.Proofs Go.Proofs.Tryz
set_option linter.unusedSimpArgs false
set_option linter.unusedVariables false
set_option maxRecDepth 4000
namespace Go.Ab
noncomputable def jH(m:cO):Bool:=dec (1<=m.aO.length)&&(dec (m.aO.length<=5)&&nu m.aO m.fBody)
noncomputable def iL(x:bI):List (List UInt8):=x.bN.map cO.fName
noncomputable def qJ(x:bI):Bool:=validName x.dP&&(dec (x.aO.length<=3)&&(fU x.aO&&(fH x.aO x.fD&&(!lY x.fD&&(dec (x.fD.aW=2\/x.fD.aW=1)&&(among x.aO (gB [] x.fD)&&(mR x.aO x.fI&&((if x.kY=true then fH x.aO x.fP else dec (sK x.fP))&&dec (x.bN.length<=6)))))))))
noncomputable def fV(x:bI):Bool:=qJ x&&(x.bN.all jH&&fU (iL x))
theorem bI.sum(x:bI):x.dP.length+(x.aO.length+aH (x.aO.map encS))+x.fD.sz+(x.fI.length+aH (x.fI.map bR.enc))+x.fP.sz+(x.bN.length+aH (x.bN.map cO.enc))<=x.sz:=by
 simp only[bI.sz,bI.aB,aY,bG,D.sz,al,ah.cB];omega
theorem cO.sum(x:cO):x.fName.length+(x.aO.length+aH (x.aO.map encS))+x.fBody.sz<=x.sz:=by
 simp only[cO.sz,cO.aB,aY,bG,D.sz,al,ak.cB];omega
theorem OH{xs:List cO}{t:cO}(h:t∈xs):t.sz<=aH (xs.map cO.enc):=dK (bd h)
theorem I5(v:List UInt8):∀(us:List ah)(out:List (List UInt8)),v∈us.foldl oN out<->v∈out\/0<us.countP (Fv v)
 |[],out=>by simp
 |u::us,out=>by
  rw[dA,I5 v us,List.countP_cons]
  have h:v∈oN out u<->v∈out\/Fv v u=true:=by
   unfold oN Fv;split
   ·rename_i h;simp only[cR,dt];constructor
    ·rintro(h1|h1)
     ·exact .inl h1
     ·right;simp[h1,h.1]
    ·rintro(h1|h1)
     ·exact .inl h1
     ·right;simp at h1;exact h1.2.symm
   ·rename_i h;constructor
    ·exact .inl
    ·rintro(h1|h1)
     ·exact h1
     ·simp at h1;by_cases e:u.fName∈out
      ·rw[<-h1.2];exact e
      ·exact absurd ⟨h1.1,e⟩ h
  rw[h]
  cases Fv v u<;>simp
theorem Rq(v:List UInt8)(t:ah):occurs v t=dec (v∈gB [] t):=by
 unfold occurs gB lM;rw[j3];exact dY (by rw[I5];simp)
theorem Rs{t:ah}(h:kg t=true):t.aW=1\/t.aW=2\/t.aW=3\/t.aW=4:=by
 have h1:=(iD h).1;rw[uZ,aq] at h1;have h2:=iD h1.1;omega
theorem UN{t:ah}(h:lY t=false):t.aW≠3:=by
 rw[zx] at h;intro e;simp[e] at h
theorem Eh(x:bI)(hsz:x.sz<=4194304):aT prog 36 [x.v] (.c (.d (.b (fV x)))):=fun S=>by
 have hs:=bI.sum x
 have hV:∀s∈x.aO,s.length<=4194304:=fun s h=>by have:=mG h;omega
 have hW:∀b∈x.fI,b.sz<=4194304:=fun b h=>by have:=Cb h;omega
 have hM:∀m∈x.bN,m.sz<=4194304:=fun m h=>by have:=OH h;omega
 have no:qJ x=false->V.c (.d (.b false))=V.c (.d (.b (fV x))):=fun h=>ay (by unfold fV;rw[h];rfl);refine(show Hold (qJ x=true-> ?T)->_ from fun tail=> ?main) ?tp
 case' main=>
  refine zcx [.tmp 2] func36 ntmps36 ?_;simp -implicitDefEqProofs (disch:=omega) only[go_sem]
  repeat' (first
   |with_reducible refine aj (fun hb=> ?_) (fun hb=> ?_)<;>have h:=hb<;>(try simp only[wf_preprocess] at h)<;>simp -implicitDefEqProofs (disch:=omega) only[go_sem,hb]<;>(repeat(with_reducible refine And.intro ?_ ?_;focus first|omega|rfl|assumption|exact⟨_,rfl,rfl⟩|(simp;omega)|(simp;done)))
   |((with_reducible show dQ _ _ 30 _ _ _ _);refine au (fA x.dP (by omega)) ?_;simp -implicitDefEqProofs (disch:=omega) only[go_sem])
   |((with_reducible show dQ _ _ 31 _ _ _ _);refine au (j5 x.aO (by omega) hV) ?_;simp -implicitDefEqProofs (disch:=omega) only[go_sem])
   |((with_reducible show dQ _ _ 60 _ _ _ _);refine au (oh x.fD x.aO (by omega) (by omega)) ?_;simp -implicitDefEqProofs (disch:=omega) only[go_sem])
   |((with_reducible show dQ _ _ 60 _ _ _ _);refine au (oh x.fP x.aO (by omega) (by omega)) ?_;simp -implicitDefEqProofs (disch:=omega) only[go_sem])
   |((with_reducible show dQ _ _ 61 _ _ _ _);refine au (yP x.fD (by omega)) ?_;simp -implicitDefEqProofs (disch:=omega) only[go_sem])
   |((with_reducible show dQ _ _ 62 _ _ _ _);refine au (sI x.fD (by omega)) ?_;simp -implicitDefEqProofs (disch:=omega) only[go_sem])
   |((with_reducible show dQ _ _ 20 _ _ _ _);refine au (qH x.aO (gB [] x.fD) (by omega) (FN _ (by omega))) ?_;simp -implicitDefEqProofs (disch:=omega) only[go_sem])
   |((with_reducible show dQ _ _ 63 _ _ _ _);refine au (Bn x.fI x.aO (by omega) hW (by omega)) ?_;simp -implicitDefEqProofs (disch:=omega) only[go_sem])
   |((with_reducible show dQ _ _ 64 _ _ _ _);refine au (zY x.fP) ?_;simp -implicitDefEqProofs (disch:=omega) only[go_sem])
   |(refine no ?_;unfold qJ;grind [iD,gK,bg,aI]))
  all_goals
   have hh:qJ x=true:=by unfold qJ;grind [iD,gK,bg,aI]
   (repeat(with_reducible refine And.intro ?_ ?_;focus first|omega|rfl|assumption|exact⟨_,rfl,rfl⟩|(simp;omega)|(simp;done)))
   refine jL 3 1 [] rfl (by simp) ?_;refine uh (st':=[.box (x.enc.map .d),.tok 1 []]::S) [3,91,92,93] [.c (.bM (0,1) []),.c (.d (.sl (x.bN.map cO.enc))),.c (.d (.i .i64 x.bN.length)),.c (.d (.i .i64 0))] ?_ ?_ ?_
   ·rfl
   ·first|(simp -implicitDefEqProofs (disch:=omega) only[go_sem];done)|(simp -implicitDefEqProofs (disch:=omega) only[go_sem];simp[*])
   ·exact tail.out hh
 refine⟨fun hh=> ?_⟩
 have bad:∀i,∀hi:i<x.bN.length,jH x.bN[i]=false->V.c (.d (.b false))=V.c (.d (.b (fV x))):=fun i hi h=>by
  have:x.bN.all jH=false:=cY.2 fun hx=>by
   rw[ax.1 hx _ (ac hi)] at h;cases h
  unfold fV
  rw[this];simp
 refine bn (ι:=Nat×List (List UInt8)) zmx rfl [3,91,92,93] (fun y=>[.c (.bM (0,1) (y.2.map encS)),.c (.d (.sl (x.bN.map cO.enc))),.c (.d (.i .i64 x.bN.length)),.c (.d (.i .i64 y.1))]) (fun y=>[.box (x.enc.map .d),.tok 1 (y.2.map encS)]::S)
  (fun y=>y.1<=x.bN.length/\y.2=(iL x).take y.1/\∀j,∀hj:j<x.bN.length,j<y.1->jH x.bN[j]=true) (fun y=>x.bN.length-y.1) (0,[]) rfl ?_ ⟨ao _,rfl,fun j _ h=>by simp only at h;omega⟩ ?_
 ·simp -implicitDefEqProofs (disch:=omega) only[go_sem]
 rintro⟨i,names⟩ ⟨p1,p2,p3⟩;simp only at p1 p2 p3
 have pl:names.length<=x.bN.length:=by rw[p2];simp[iL];omega
 simp -implicitDefEqProofs (disch:=omega) only[go_sem]
 with_reducible refine aj (fun hb=> ?_) (fun hb=> ?_)<;>have h:=hb<;>(try simp only[wf_preprocess] at h)<;>simp -implicitDefEqProofs (disch:=omega) only[go_sem,hb]<;>(repeat(with_reducible refine And.intro ?_ ?_;focus first|omega|rfl|assumption|exact⟨_,rfl,rfl⟩|(simp;omega)|(simp;done)))
 ·have hi:i<x.bN.length:=by omega
  have hm:=hM _ (ac hi);have hms:=cO.sum x.bN[i]
  have hmv:∀s∈x.bN[i].aO,s.length<=4194304:=fun s h=>by have:=mG h;omega
  (repeat(with_reducible refine And.intro ?_ ?_;focus first|omega|rfl|assumption|exact⟨_,rfl,rfl⟩|(simp;omega)|(simp;done)))
  with_reducible refine aj (fun hb=> ?_) (fun hb=> ?_)<;>have h:=hb<;>(try simp only[wf_preprocess] at h)<;>simp -implicitDefEqProofs (disch:=omega) only[go_sem,hb]<;>(repeat(with_reducible refine And.intro ?_ ?_;focus first|omega|rfl|assumption|exact⟨_,rfl,rfl⟩|(simp;omega)|(simp;done)))
  ·exact bad i hi (by unfold jH;rw[aI (by omega)];rfl)
  (repeat(with_reducible refine And.intro ?_ ?_;focus first|omega|rfl|assumption|exact⟨_,rfl,rfl⟩|(simp;omega)|(simp;done)))
  with_reducible refine aj (fun hb=> ?_) (fun hb=> ?_)<;>have h:=hb<;>(try simp only[wf_preprocess] at h)<;>simp -implicitDefEqProofs (disch:=omega) only[go_sem,hb]<;>(repeat(with_reducible refine And.intro ?_ ?_;focus first|omega|rfl|assumption|exact⟨_,rfl,rfl⟩|(simp;omega)|(simp;done)))
  ·exact bad i hi (by unfold jH;rw[aI (show ¬x.bN[i].aO.length<=5 by omega)];simp)
  (repeat(with_reducible refine And.intro ?_ ?_;focus first|omega|rfl|assumption|exact⟨_,rfl,rfl⟩|(simp;omega)|(simp;done)))
  refine au (Bl x.bN[i].aO x.bN[i].fBody (by omega) hmv (by omega)) ?_;simp -implicitDefEqProofs (disch:=omega) only[go_sem]<;>(repeat(with_reducible refine And.intro ?_ ?_;focus first|omega|rfl|assumption|exact⟨_,rfl,rfl⟩|(simp;omega)|(simp;done)))
  with_reducible refine aj (fun hb=> ?_) (fun hb=> ?_)<;>have h:=hb<;>(try simp only[wf_preprocess] at h)<;>simp -implicitDefEqProofs (disch:=omega) only[go_sem,hb]<;>(repeat(with_reducible refine And.intro ?_ ?_;focus first|omega|rfl|assumption|exact⟨_,rfl,rfl⟩|(simp;omega)|(simp;done)))
  ·exact bad i hi (by unfold jH;rw[h];simp)
  have k2:=h
  have k3:jH x.bN[i]=true:=by unfold jH;rw[k2,bg (by omega),bg (by omega)];rfl
  (repeat(with_reducible refine And.intro ?_ ?_;focus first|omega|rfl|assumption|exact⟨_,rfl,rfl⟩|(simp;omega)|(simp;done)))
  rw[show List.map encS names++[[D.s x.bN[i].fName]]=List.map encS (names++[x.bN[i].fName]) by simp[encS]]
  exact dL 2 (by decide) (i+1,names++[x.bN[i].fName]) (by simp only;omega) rfl rfl rfl rfl ⟨by simp only;omega,by simp only;rw[p2,fC (by simpa [iL] using hi)];simp[iL],fun j hj hji=>by
   simp only at hji;by_cases e:j=i
   ·subst e;exact k3
   ·exact p3 j hj (by omega)⟩
 have hi:i=x.bN.length:=by omega
 have hn:names=iL x:=by rw[p2,bi (by simp[iL];omega)]
 have hall:x.bN.all jH=true:=ax.2 fun c hc=>by
  obtain⟨j,hj,e⟩:=bm hc;rw[<-e];exact p3 j hj (by omega)
 have hnl:∀s∈names,s.length<=4194304:=fun s hm=>by
  rw[hn] at hm;obtain⟨g,hg,e⟩:=cp.1 hm;have:=hM g hg;have:=cO.sum g;rw[<-e];omega
 refine au (j5 names (by omega) hnl) ?_;simp -implicitDefEqProofs (disch:=omega) only[go_sem]<;>(repeat(with_reducible refine And.intro ?_ ?_;focus first|omega|rfl|assumption|exact⟨_,rfl,rfl⟩|(simp;omega)|(simp;done)));exact ay (by unfold fV;rw[hh,hall,hn];rfl)
theorem Ei(x:bI)(hsz:x.sz<=4194304):aT prog 73 [x.v] (.c (.d (.b (fV x)))):=fun S=>by
 have hs:=bI.sum x
 have hV:∀s∈x.aO,s.length<=4194304:=fun s h=>by have:=mG h;omega
 have hW:∀b∈x.fI,b.sz<=4194304:=fun b h=>by have:=Cb h;omega
 have hM:∀m∈x.bN,m.sz<=4194304:=fun m h=>by have:=OH h;omega
 have bad:x.bN.all jH=false->V.c (.d (.b false))=V.c (.d (.b (fV x))):=fun h=>ay (by unfold fV;rw[h];simp);have no:qJ x=false->V.c (.d (.b false))=V.c (.d (.b (fV x))):=fun h=>ay (by unfold fV;rw[h];rfl)
 have hk:fH x.aO x.fD=true->lY x.fD=false->(x.fD.aW=1\/x.fD.aW=2\/x.fD.aW=4):=fun h1 h2=>by
  unfold fH at h1;rw[aq] at h1;have:=Rs h1.1;have:=UN h2;omega
 refine zcx [.tmp 2] func73 ntmps73 ?_;simp -implicitDefEqProofs (disch:=omega) only[go_sem]
 repeat' (first
  |with_reducible refine aj (fun hb=> ?_) (fun hb=> ?_)<;>have h:=hb<;>(try simp only[wf_preprocess] at h)<;>simp -implicitDefEqProofs (disch:=omega) only[go_sem,hb]<;>(repeat(with_reducible refine And.intro ?_ ?_;focus first|omega|rfl|assumption|exact⟨_,rfl,rfl⟩|(simp;omega)|(simp;done)))
  |((with_reducible show dQ _ _ 42 _ _ _ _);refine au (fB x.dP (by omega)) ?_;simp -implicitDefEqProofs (disch:=omega) only[go_sem])
  |((with_reducible show dQ _ _ 43 _ _ _ _);refine au (iQ x.aO 3 (by omega) hV) ?_;simp -implicitDefEqProofs (disch:=omega) only[go_sem])
  |((with_reducible show dQ _ _ 98 _ _ _ _);refine au (nP x.fD x.aO (by omega) (by omega)) ?_;simp -implicitDefEqProofs (disch:=omega) only[go_sem])
  |((with_reducible show dQ _ _ 99 _ _ _ _);refine au (yO x.fD (by omega)) ?_;simp -implicitDefEqProofs (disch:=omega) only[go_sem])
  |((with_reducible show dQ _ _ 100 _ _ _ _);refine au (Df x.fI x.aO (by omega) hW (by omega)) ?_;simp -implicitDefEqProofs (disch:=omega) only[go_sem])
  |(refine no ?_;unfold qJ;grind [iD,gK,bg,aI]))
 all_goals
  have h1:validName x.dP=true:=by assumption
  have h2:(dec ((x.aO.length:Int)<=3)&&fU x.aO)=true:=by assumption
  have h3:fH x.aO x.fD=true:=by assumption
  have h4:lY x.fD=false:=by assumption
  have h5:¬x.fD.aW=4:=by assumption
  have h6:mR x.aO x.fI=true:=by assumption
 have h7:=hk h3 h4;clear hk;rw[aq] at h2;have h8:=iD h2.1
 have pre:qJ x=(among x.aO (gB [] x.fD)&&((if x.kY=true then fH x.aO x.fP else dec (sK x.fP))&&dec (x.bN.length<=6))):=by
  unfold qJ;rw[h1,h2.2,h3,h4,h6,bg (show x.aO.length<=3 by omega),bg (show x.fD.aW=2\/x.fD.aW=1 by omega)]
  simp
 clear h1 h2 h3 h4 h5 h6 h7 h8
 refine bn (ι:=Nat) zmx rfl [1,3] (fun i=>[.c (.ptr (0,0) 0),.c (.d (.i .i64 i))]) (fun _=>[.box (x.enc.map .d)]::S)
  (fun i=>i<=x.aO.length/\among (x.aO.drop i) (gB [] x.fD)=among x.aO (gB [] x.fD)) (fun i=>x.aO.length-i) 0 rfl ?_ ⟨ao _,rfl⟩ ?_
 ·simp -implicitDefEqProofs (disch:=omega) only[go_sem]
 rintro i ⟨p1,p2⟩;simp -implicitDefEqProofs (disch:=omega) only[go_sem,encS]
 with_reducible refine aj (fun hb=> ?_) (fun hb=> ?_)<;>have h:=hb<;>(try simp only[wf_preprocess] at h)<;>simp -implicitDefEqProofs (disch:=omega) only[go_sem,hb,encS]<;>(repeat(with_reducible refine And.intro ?_ ?_;focus first|omega|rfl|assumption|exact⟨_,rfl,rfl⟩|(simp;omega)|(simp;done)))
 ·have hi:i<x.aO.length:=by omega
  rw[bh hi] at p2;have p3:among x.aO (gB [] x.fD)=(dec (x.aO[i]∈gB [] x.fD)&&among (x.aO.drop (i+1)) (gB [] x.fD)):=p2.symm
  (repeat(with_reducible refine And.intro ?_ ?_;focus first|omega|rfl|assumption|exact⟨_,rfl,rfl⟩|(simp;omega)|(simp;done)))
  refine au (Jo x.aO[i] x.fD (by omega)) ?_;simp -implicitDefEqProofs (disch:=omega) only[go_sem]<;>(repeat(with_reducible refine And.intro ?_ ?_;focus first|omega|rfl|assumption|exact⟨_,rfl,rfl⟩|(simp;omega)|(simp;done)));rw[Rq]
  with_reducible refine aj (fun hb=> ?_) (fun hb=> ?_)<;>have h:=hb<;>(try simp only[wf_preprocess] at h)<;>simp -implicitDefEqProofs (disch:=omega) only[go_sem,hb]<;>(repeat(with_reducible refine And.intro ?_ ?_;focus first|omega|rfl|assumption|exact⟨_,rfl,rfl⟩|(simp;omega)|(simp;done)))
  ·exact no (by rw[pre,p3,aI h];rfl)
  ·exact bU (i+1) (by omega) rfl rfl ⟨by omega,by rw[p3,bg h];rfl⟩
 rw[bz (by omega)] at p2;have p3:among x.aO (gB [] x.fD)=true:=p2.symm;rw[p3,bj] at pre;refine(show Hold ((if x.kY=true then fH x.aO x.fP else dec (sK x.fP))=true-> ?T)->_ from fun tail=> ?main) ?tp
 case' main=>
  repeat' (first
   |with_reducible refine aj (fun hb=> ?_) (fun hb=> ?_)<;>have h:=hb<;>(try simp only[wf_preprocess] at h)<;>simp -implicitDefEqProofs (disch:=omega) only[go_sem,hb]<;>(repeat(with_reducible refine And.intro ?_ ?_;focus first|omega|rfl|assumption|exact⟨_,rfl,rfl⟩|(simp;omega)|(simp;done)))
   |((with_reducible show dQ _ _ 98 _ _ _ _);refine au (nP x.fP x.aO (by omega) (by omega)) ?_;simp -implicitDefEqProofs (disch:=omega) only[go_sem])
   |((with_reducible show dQ _ _ 102 _ _ _ _);refine au (FH x.fP) ?_;simp -implicitDefEqProofs (disch:=omega) only[go_sem])
   |(refine no ?_;rw[pre];grind [iD,gK,bg,aI]))
  all_goals
   have hh:(if x.kY=true then fH x.aO x.fP else dec (sK x.fP))=true:=by grind [iD,gK,bg,aI]
   (repeat(with_reducible refine And.intro ?_ ?_;focus first|omega|rfl|assumption|exact⟨_,rfl,rfl⟩|(simp;omega)|(simp;done)))
   refine jL 4 1 [] rfl (by simp) ?_;refine uh (st':=[.box (x.enc.map .d),.tok 1 []]::S) [1,4,5] [.c (.ptr (0,0) 0),.c (.bM (0,1) []),.c (.d (.i .i64 0))] ?_ ?_ ?_
   ·rfl
   ·first|(simp -implicitDefEqProofs (disch:=omega) only[go_sem];done)|(simp -implicitDefEqProofs (disch:=omega) only[go_sem];simp[*])
   ·exact tail.out hh
 refine⟨fun hh=> ?_⟩;rw[hh,bj] at pre;clear p2 p3 p1 hh no
 have XZ:∀i,∀hi:i<x.bN.length,jH x.bN[i]=false->V.c (.d (.b false))=V.c (.d (.b (fV x))):=fun i hi h=>bad (cY.2 fun hx=>by
  rw[ax.1 hx _ (ac hi)] at h;cases h)
 refine bn (ι:=Nat×List (List UInt8)) zmx rfl [1,4,5] (fun y=>[.c (.ptr (0,0) 0),.c (.bM (0,1) (y.2.map encS)),.c (.d (.i .i64 y.1))]) (fun y=>[.box (x.enc.map .d),.tok 1 (y.2.map encS)]::S)
  (fun y=>y.1<=x.bN.length/\y.2=(iL x).take y.1/\∀j,∀hj:j<x.bN.length,j<y.1->jH x.bN[j]=true) (fun y=>x.bN.length-y.1) (0,[]) rfl ?_ ⟨ao _,rfl,fun j _ h=>by simp only at h;omega⟩ ?_
 ·simp -implicitDefEqProofs (disch:=omega) only[go_sem]
 rintro⟨i,names⟩ ⟨p1,p2,p3⟩;simp only at p1 p2 p3
 have pl:names.length<=x.bN.length:=by rw[p2];simp[iL];omega
 simp -implicitDefEqProofs (disch:=omega) only[go_sem]
 with_reducible refine aj (fun hb=> ?_) (fun hb=> ?_)<;>have h:=hb<;>(try simp only[wf_preprocess] at h)<;>simp -implicitDefEqProofs (disch:=omega) only[go_sem,hb]<;>(repeat(with_reducible refine And.intro ?_ ?_;focus first|omega|rfl|assumption|exact⟨_,rfl,rfl⟩|(simp;omega)|(simp;done)))
 ·have hi:i<x.bN.length:=by omega
  have hm:=hM _ (ac hi);have hms:=cO.sum x.bN[i]
  have hmv:∀s∈x.bN[i].aO,s.length<=4194304:=fun s h=>by have:=mG h;omega
  (repeat(with_reducible refine And.intro ?_ ?_;focus first|omega|rfl|assumption|exact⟨_,rfl,rfl⟩|(simp;omega)|(simp;done)))
  with_reducible refine aj (fun hb=> ?_) (fun hb=> ?_)<;>have h:=hb<;>(try simp only[wf_preprocess] at h)<;>simp -implicitDefEqProofs (disch:=omega) only[go_sem,hb]<;>(repeat(with_reducible refine And.intro ?_ ?_;focus first|omega|rfl|assumption|exact⟨_,rfl,rfl⟩|(simp;omega)|(simp;done)))
  ·exact XZ i hi (by unfold jH;rw[aI (by omega)];rfl)
  (repeat(with_reducible refine And.intro ?_ ?_;focus first|omega|rfl|assumption|exact⟨_,rfl,rfl⟩|(simp;omega)|(simp;done)))
  refine au (iQ x.bN[i].aO 5 (by omega) hmv) ?_;simp -implicitDefEqProofs (disch:=omega) only[go_sem]<;>(repeat(with_reducible refine And.intro ?_ ?_;focus first|omega|rfl|assumption|exact⟨_,rfl,rfl⟩|(simp;omega)|(simp;done)))
  with_reducible refine aj (fun hb=> ?_) (fun hb=> ?_)<;>have h:=hb<;>(try simp only[wf_preprocess] at h)<;>simp -implicitDefEqProofs (disch:=omega) only[go_sem,hb]<;>(repeat(with_reducible refine And.intro ?_ ?_;focus first|omega|rfl|assumption|exact⟨_,rfl,rfl⟩|(simp;omega)|(simp;done)))
  ·refine XZ i hi ?_;unfold jH nu
   have:(dec (x.bN[i].aO.length<=5)&&fU x.bN[i].aO)=false:=by
    rw[<-h];congr 1;exact dY ⟨fun h=>by omega,fun h=>by omega⟩
   rw[<-ey (dec (x.bN[i].aO.length<=5)),this];simp
  have k1:=h;rw[aq] at k1;have k4:=iD k1.1
  (repeat(with_reducible refine And.intro ?_ ?_;focus first|omega|rfl|assumption|exact⟨_,rfl,rfl⟩|(simp;omega)|(simp;done)))
  refine au (zC x.bN[i].aO x.bN[i].fBody (by omega) (by omega)) ?_;simp -implicitDefEqProofs (disch:=omega) only[go_sem]<;>(repeat(with_reducible refine And.intro ?_ ?_;focus first|omega|rfl|assumption|exact⟨_,rfl,rfl⟩|(simp;omega)|(simp;done)))
  with_reducible refine aj (fun hb=> ?_) (fun hb=> ?_)<;>have h:=hb<;>(try simp only[wf_preprocess] at h)<;>simp -implicitDefEqProofs (disch:=omega) only[go_sem,hb]<;>(repeat(with_reducible refine And.intro ?_ ?_;focus first|omega|rfl|assumption|exact⟨_,rfl,rfl⟩|(simp;omega)|(simp;done)))
  ·exact XZ i hi (by unfold jH nu;rw[h];simp)
  have k2:=h
  have k3:jH x.bN[i]=true:=by unfold jH nu;rw[k2,k1.2,bg (by omega),bg (by omega)];rfl
  (repeat(with_reducible refine And.intro ?_ ?_;focus first|omega|rfl|assumption|exact⟨_,rfl,rfl⟩|(simp;omega)|(simp;done)))
  rw[show List.map encS names++[[D.s x.bN[i].fName]]=List.map encS (names++[x.bN[i].fName]) by simp[encS]]
  exact dL 2 (by decide) (i+1,names++[x.bN[i].fName]) (by simp only;omega) rfl rfl rfl rfl ⟨by simp only;omega,by simp only;rw[p2,fC (by simpa [iL] using hi)];simp[iL],fun j hj hji=>by
   simp only at hji;by_cases e:j=i
   ·subst e;exact k3
   ·exact p3 j hj (by omega)⟩
 have hi:i=x.bN.length:=by omega
 have hn:names=iL x:=by rw[p2,bi (by simp[iL];omega)]
 have hall:x.bN.all jH=true:=ax.2 fun c hc=>by
  obtain⟨j,hj,e⟩:=bm hc;rw[<-e];exact p3 j hj (by omega)
 have hnl:∀s∈names,s.length<=4194304:=fun s hm=>by
  rw[hn] at hm;obtain⟨g,hg,e⟩:=cp.1 hm;have:=hM g hg;have:=cO.sum g;rw[<-e];omega
 have hlen:names.length=x.bN.length:=by rw[hn];simp[iL]
 refine au (iQ names 6 (by omega) hnl) ?_;simp -implicitDefEqProofs (disch:=omega) only[go_sem]<;>(repeat(with_reducible refine And.intro ?_ ?_;focus first|omega|rfl|assumption|exact⟨_,rfl,rfl⟩|(simp;omega)|(simp;done)));refine ay ?_;unfold fV;rw[pre,hall,hn,bj];congr 1;rw[<-hn,hlen];exact dY ⟨fun h=>by omega,fun h=>by omega⟩
end Go.Ab