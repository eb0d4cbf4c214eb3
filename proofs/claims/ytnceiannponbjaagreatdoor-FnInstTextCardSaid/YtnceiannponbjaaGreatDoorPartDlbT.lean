/-
  SEVERAL TEXTS IN ONE (merged by program): contracts and models, each with its own heading.
-/
import Derived.Test.YtnceiannponbjaaGreatDoorPartDlbO
set_option maxHeartbeats 8000000
open Go.Proofs Go.Proofs.Tryz
set_option linter.unusedSimpArgs false
set_option linter.unusedVariables false
set_option maxRecDepth 4000
namespace Go.Ab
noncomputable def jW(m:aN):Bool:=dec (1<=m.aK.length)&&(dec (m.aK.length<=5)&&oO m.aK m.fBody)
noncomputable def jM(x:aH):List (List UInt8):=x.aF.map aN.fName
noncomputable def qW(x:aH):Bool:=validName x.bg&&(dec (x.aK.length<=3)&&(jN x.aK&&(jq x.aK x.bA&&(!oo x.bA&&(dec (x.bA.aI=2\/x.bA.aI=1)&&(among x.aK (gY [] x.bA)&&(nW x.aK x.bR&&((if x.dn=true then jq x.aK x.bC else dec (uq x.bC))&&dec (x.aF.length<=6)))))))))
noncomputable def eO(x:aH):Bool:=qW x&&(x.aF.all jW&&jN (jM x))
theorem aH.sum(x:aH):x.bg.length+(x.aK.length+bB (x.aK.map encS))+x.bA.sz+(x.bR.length+bB (x.bR.map aM.enc))+x.bC.sz+(x.aF.length+bB (x.aF.map aN.enc))<=x.sz:=by
 simp only[aH.sz,aH.aB,bL,bZ,D.sz,List.length_map,au.dz];omega
theorem aN.sum(x:aN):x.fName.length+(x.aK.length+bB (x.aK.map encS))+x.fBody.sz<=x.sz:=by
 simp only[aN.sz,aN.aB,bL,bZ,D.sz,List.length_map,aC.dz];omega
theorem w9{xs:List aN}{t:aN}(h:t∈xs):t.sz<=bB (xs.map aN.enc):=gT (List.mem_map_of_mem h)
theorem Ng(v:List UInt8):∀(us:List au)(out:List (List UInt8)),v∈us.foldl rQ out<->v∈out\/0<us.countP (J7 v)
 |[],out=>by simp
 |u::us,out=>by
  rw[List.foldl_cons,Ng v us,List.countP_cons]
  have h:v∈rQ out u<->v∈out\/J7 v u=true:=by
   unfold rQ J7;split
   ·rename_i h;simp only[List.mem_append,List.mem_singleton];constructor
    ·rintro(h1|h1)
     ·exact .inl h1
     ·right;simp[h1,h.1]
    ·rintro(h1|h1)
     ·exact .inl h1
     ·right;simp at h1;exact h1.2.symm
   ·rename_i h;constructor
    ·exact .inl
    ·rintro(h1|h1)
     ·exact h1
     ·simp at h1;by_cases e:u.fName∈out
      ·rw[<-h1.2];exact e
      ·exact absurd ⟨h1.1,e⟩ h
  rw[h]
  cases J7 v u<;>simp
theorem Xi(v:List UInt8)(t:au):occurs v t=dec (v∈gY [] t):=by
 unfold occurs gY nU;rw[kY];exact jJ (by rw[Ng];simp)
theorem Xj{t:au}(h:lK t=true):t.aI=1\/t.aI=2\/t.aI=3\/t.aI=4:=by
 have h1:=(gF h).1;rw[u6,Bool.and_eq_true] at h1;have h2:=gF h1.1;omega
theorem ZR{t:au}(h:oo t=false):t.aI≠3:=by
 rw[Dt] at h;intro e;simp[e] at h
theorem qM(x:aH)(hsz:x.sz<=4194304):aJ prog 27 [x.v] (.c (.d (.b (eO x)))):=fun S=>by
 have hs:=aH.sum x
 have hV:∀s∈x.aK,s.length<=4194304:=fun s h=>by have:=Co h;omega
 have hW:∀b∈x.bR,b.sz<=4194304:=fun b h=>by have:=rF h;omega
 have hM:∀m∈x.aF,m.sz<=4194304:=fun m h=>by have:=w9 h;omega
 have no:qW x=false->V.c (.d (.b false))=V.c (.d (.b (eO x))):=fun h=>aY (by unfold eO;rw[h];rfl);refine(show Hold (qW x=true-> ?T)->_ from fun tail=> ?main) ?tp
 case' main=>
  refine zcx [.tmp 2] func27 ntmps27 ?_;simp -implicitDefEqProofs (disch:=omega) only[go_sem]
  repeat' (first
   |with_reducible refine aD (fun hb=> ?_) (fun hb=> ?_)<;>have h:=hb<;>(try simp only[wf_preprocess] at h)<;>simp -implicitDefEqProofs (disch:=omega) only[go_sem,hb]<;>(repeat(with_reducible refine And.intro ?_ ?_;focus first|omega|rfl|assumption|exact⟨_,rfl,rfl⟩|(simp;omega)|(simp;done)))
   |((with_reducible show gH _ _ 43 _ _ _ _);refine aA (kE x.bg (by omega)) ?_;simp -implicitDefEqProofs (disch:=omega) only[go_sem])
   |((with_reducible show gH _ _ 44 _ _ _ _);refine aA (xK x.aK (by omega) hV) ?_;simp -implicitDefEqProofs (disch:=omega) only[go_sem])
   |((with_reducible show gH _ _ 48 _ _ _ _);refine aA (Ec x.bA x.aK (by omega) (by omega)) ?_;simp -implicitDefEqProofs (disch:=omega) only[go_sem])
   |((with_reducible show gH _ _ 48 _ _ _ _);refine aA (Ec x.bC x.aK (by omega) (by omega)) ?_;simp -implicitDefEqProofs (disch:=omega) only[go_sem])
   |((with_reducible show gH _ _ 81 _ _ _ _);refine aA (Cn x.bA (by omega)) ?_;simp -implicitDefEqProofs (disch:=omega) only[go_sem])
   |((with_reducible show gH _ _ 83 _ _ _ _);refine aA (vZ x.bA (by omega)) ?_;simp -implicitDefEqProofs (disch:=omega) only[go_sem])
   |((with_reducible show gH _ _ 82 _ _ _ _);refine aA (xL x.aK (gY [] x.bA) (by omega) (KL _ (by omega))) ?_;simp -implicitDefEqProofs (disch:=omega) only[go_sem])
   |((with_reducible show gH _ _ 45 _ _ _ _);refine aA (QN x.bR x.aK (by omega) hW (by omega)) ?_;simp -implicitDefEqProofs (disch:=omega) only[go_sem])
   |((with_reducible show gH _ _ 84 _ _ _ _);refine aA (Ed x.bC) ?_;simp -implicitDefEqProofs (disch:=omega) only[go_sem])
   |(refine no ?_;unfold qW;grind [gF,jR,bT,bI]))
  all_goals
   have hh:qW x=true:=by unfold qW;grind [gF,jR,bT,bI]
   (repeat(with_reducible refine And.intro ?_ ?_;focus first|omega|rfl|assumption|exact⟨_,rfl,rfl⟩|(simp;omega)|(simp;done)))
   refine yg 3 1 [] rfl (by simp) ?_;refine l8 (st':=[.box (x.enc.map .d),.tok 1 []]::S) [3,91,92,93] [.c (.bK (0,1) []),.c (.d (.sl (x.aF.map aN.enc))),.c (.d (.i .i64 x.aF.length)),.c (.d (.i .i64 0))] ?_ ?_ ?_
   ·rfl
   ·first|(simp -implicitDefEqProofs (disch:=omega) only[go_sem];done)|(simp -implicitDefEqProofs (disch:=omega) only[go_sem];simp[*])
   ·exact tail.out hh
 refine⟨fun hh=> ?_⟩
 have bad:∀i,∀hi:i<x.aF.length,jW x.aF[i]=false->V.c (.d (.b false))=V.c (.d (.b (eO x))):=fun i hi h=>by
  have:x.aF.all jW=false:=Bool.eq_false_iff.2 fun hx=>by
   rw[List.all_eq_true.1 hx _ (List.getElem_mem hi)] at h;cases h
  unfold eO
  rw[this];simp
 refine bF (ι:=Nat×List (List UInt8)) zmx rfl [3,91,92,93] (fun y=>[.c (.bK (0,1) (y.2.map encS)),.c (.d (.sl (x.aF.map aN.enc))),.c (.d (.i .i64 x.aF.length)),.c (.d (.i .i64 y.1))]) (fun y=>[.box (x.enc.map .d),.tok 1 (y.2.map encS)]::S)
  (fun y=>y.1<=x.aF.length/\y.2=(jM x).take y.1/\∀j,∀hj:j<x.aF.length,j<y.1->jW x.aF[j]=true) (fun y=>x.aF.length-y.1) (0,[]) rfl ?_ ⟨Nat.zero_le _,rfl,fun j _ h=>by simp only at h;omega⟩ ?_
 ·simp -implicitDefEqProofs (disch:=omega) only[go_sem]
 rintro⟨i,names⟩ ⟨p1,p2,p3⟩;simp only at p1 p2 p3
 have pl:names.length<=x.aF.length:=by rw[p2];simp[jM];omega
 simp -implicitDefEqProofs (disch:=omega) only[go_sem]
 with_reducible refine aD (fun hb=> ?_) (fun hb=> ?_)<;>have h:=hb<;>(try simp only[wf_preprocess] at h)<;>simp -implicitDefEqProofs (disch:=omega) only[go_sem,hb]<;>(repeat(with_reducible refine And.intro ?_ ?_;focus first|omega|rfl|assumption|exact⟨_,rfl,rfl⟩|(simp;omega)|(simp;done)))
 ·have hi:i<x.aF.length:=by omega
  have hm:=hM _ (List.getElem_mem hi);have hms:=aN.sum x.aF[i]
  have hmv:∀s∈x.aF[i].aK,s.length<=4194304:=fun s h=>by have:=Co h;omega
  (repeat(with_reducible refine And.intro ?_ ?_;focus first|omega|rfl|assumption|exact⟨_,rfl,rfl⟩|(simp;omega)|(simp;done)))
  with_reducible refine aD (fun hb=> ?_) (fun hb=> ?_)<;>have h:=hb<;>(try simp only[wf_preprocess] at h)<;>simp -implicitDefEqProofs (disch:=omega) only[go_sem,hb]<;>(repeat(with_reducible refine And.intro ?_ ?_;focus first|omega|rfl|assumption|exact⟨_,rfl,rfl⟩|(simp;omega)|(simp;done)))
  ·exact bad i hi (by unfold jW;rw[bI (by omega)];rfl)
  (repeat(with_reducible refine And.intro ?_ ?_;focus first|omega|rfl|assumption|exact⟨_,rfl,rfl⟩|(simp;omega)|(simp;done)))
  with_reducible refine aD (fun hb=> ?_) (fun hb=> ?_)<;>have h:=hb<;>(try simp only[wf_preprocess] at h)<;>simp -implicitDefEqProofs (disch:=omega) only[go_sem,hb]<;>(repeat(with_reducible refine And.intro ?_ ?_;focus first|omega|rfl|assumption|exact⟨_,rfl,rfl⟩|(simp;omega)|(simp;done)))
  ·exact bad i hi (by unfold jW;rw[bI (show ¬x.aF[i].aK.length<=5 by omega)];simp)
  (repeat(with_reducible refine And.intro ?_ ?_;focus first|omega|rfl|assumption|exact⟨_,rfl,rfl⟩|(simp;omega)|(simp;done)))
  refine aA (ZH x.aF[i].aK x.aF[i].fBody (by omega) hmv (by omega)) ?_;simp -implicitDefEqProofs (disch:=omega) only[go_sem]<;>(repeat(with_reducible refine And.intro ?_ ?_;focus first|omega|rfl|assumption|exact⟨_,rfl,rfl⟩|(simp;omega)|(simp;done)))
  with_reducible refine aD (fun hb=> ?_) (fun hb=> ?_)<;>have h:=hb<;>(try simp only[wf_preprocess] at h)<;>simp -implicitDefEqProofs (disch:=omega) only[go_sem,hb]<;>(repeat(with_reducible refine And.intro ?_ ?_;focus first|omega|rfl|assumption|exact⟨_,rfl,rfl⟩|(simp;omega)|(simp;done)))
  ·exact bad i hi (by unfold jW;rw[h];simp)
  have k2:=h
  have k3:jW x.aF[i]=true:=by unfold jW;rw[k2,bT (by omega),bT (by omega)];rfl
  (repeat(with_reducible refine And.intro ?_ ?_;focus first|omega|rfl|assumption|exact⟨_,rfl,rfl⟩|(simp;omega)|(simp;done)))
  rw[show List.map encS names++[[D.s x.aF[i].fName]]=List.map encS (names++[x.aF[i].fName]) by simp[encS]]
  exact dO 2 (by decide) (i+1,names++[x.aF[i].fName]) (by simp only;omega) rfl rfl rfl rfl ⟨by simp only;omega,by simp only;rw[p2,vg (by simpa [jM] using hi)];simp[jM],fun j hj hji=>by
   simp only at hji;by_cases e:j=i
   ·subst e;exact k3
   ·exact p3 j hj (by omega)⟩
 have hi:i=x.aF.length:=by omega
 have hn:names=jM x:=by rw[p2,List.take_of_length_le (by simp[jM];omega)]
 have hall:x.aF.all jW=true:=List.all_eq_true.2 fun c hc=>by
  obtain⟨j,hj,e⟩:=List.getElem_of_mem hc;rw[<-e];exact p3 j hj (by omega)
 have hnl:∀s∈names,s.length<=4194304:=fun s hm=>by
  rw[hn] at hm;obtain⟨g,hg,e⟩:=List.mem_map.1 hm;have:=hM g hg;have:=aN.sum g;rw[<-e];omega
 refine aA (xK names (by omega) hnl) ?_;simp -implicitDefEqProofs (disch:=omega) only[go_sem]<;>(repeat(with_reducible refine And.intro ?_ ?_;focus first|omega|rfl|assumption|exact⟨_,rfl,rfl⟩|(simp;omega)|(simp;done)));exact aY (by unfold eO;rw[hh,hall,hn];rfl)
theorem mh(x:aH)(hsz:x.sz<=4194304):aJ prog 28 [x.v] (.c (.d (.b (eO x)))):=fun S=>by
 have hs:=aH.sum x
 have hV:∀s∈x.aK,s.length<=4194304:=fun s h=>by have:=Co h;omega
 have hW:∀b∈x.bR,b.sz<=4194304:=fun b h=>by have:=rF h;omega
 have hM:∀m∈x.aF,m.sz<=4194304:=fun m h=>by have:=w9 h;omega
 have bad:x.aF.all jW=false->V.c (.d (.b false))=V.c (.d (.b (eO x))):=fun h=>aY (by unfold eO;rw[h];simp);have no:qW x=false->V.c (.d (.b false))=V.c (.d (.b (eO x))):=fun h=>aY (by unfold eO;rw[h];rfl)
 have hk:jq x.aK x.bA=true->oo x.bA=false->(x.bA.aI=1\/x.bA.aI=2\/x.bA.aI=4):=fun h1 h2=>by
  unfold jq at h1;rw[Bool.and_eq_true] at h1;have:=Xj h1.1;have:=ZR h2;omega
 refine zcx [.tmp 2] func28 ntmps28 ?_;simp -implicitDefEqProofs (disch:=omega) only[go_sem]
 repeat' (first
  |with_reducible refine aD (fun hb=> ?_) (fun hb=> ?_)<;>have h:=hb<;>(try simp only[wf_preprocess] at h)<;>simp -implicitDefEqProofs (disch:=omega) only[go_sem,hb]<;>(repeat(with_reducible refine And.intro ?_ ?_;focus first|omega|rfl|assumption|exact⟨_,rfl,rfl⟩|(simp;omega)|(simp;done)))
  |((with_reducible show gH _ _ 52 _ _ _ _);refine aA (kF x.bg (by omega)) ?_;simp -implicitDefEqProofs (disch:=omega) only[go_sem])
  |((with_reducible show gH _ _ 53 _ _ _ _);refine aA (BG x.aK 3 (by omega) hV) ?_;simp -implicitDefEqProofs (disch:=omega) only[go_sem])
  |((with_reducible show gH _ _ 51 _ _ _ _);refine aA (Dw x.bA x.aK (by omega) (by omega)) ?_;simp -implicitDefEqProofs (disch:=omega) only[go_sem])
  |((with_reducible show gH _ _ 85 _ _ _ _);refine aA (Cm x.bA (by omega)) ?_;simp -implicitDefEqProofs (disch:=omega) only[go_sem])
  |((with_reducible show gH _ _ 54 _ _ _ _);refine aA (Tc x.bR x.aK (by omega) hW (by omega)) ?_;simp -implicitDefEqProofs (disch:=omega) only[go_sem])
  |(refine no ?_;unfold qW;grind [gF,jR,bT,bI]))
 all_goals
  have h1:validName x.bg=true:=by assumption
  have h2:(dec ((x.aK.length:Int)<=3)&&jN x.aK)=true:=by assumption
  have h3:jq x.aK x.bA=true:=by assumption
  have h4:oo x.bA=false:=by assumption
  have h5:¬x.bA.aI=4:=by assumption
  have h6:nW x.aK x.bR=true:=by assumption
 have h7:=hk h3 h4;clear hk;rw[Bool.and_eq_true] at h2;have h8:=gF h2.1
 have pre:qW x=(among x.aK (gY [] x.bA)&&((if x.dn=true then jq x.aK x.bC else dec (uq x.bC))&&dec (x.aF.length<=6))):=by
  unfold qW;rw[h1,h2.2,h3,h4,h6,bT (show x.aK.length<=3 by omega),bT (show x.bA.aI=2\/x.bA.aI=1 by omega)]
  simp
 clear h1 h2 h3 h4 h5 h6 h7 h8
 refine bF (ι:=Nat) zmx rfl [1,3] (fun i=>[.c (.ptr (0,0) 0),.c (.d (.i .i64 i))]) (fun _=>[.box (x.enc.map .d)]::S)
  (fun i=>i<=x.aK.length/\among (x.aK.drop i) (gY [] x.bA)=among x.aK (gY [] x.bA)) (fun i=>x.aK.length-i) 0 rfl ?_ ⟨Nat.zero_le _,rfl⟩ ?_
 ·simp -implicitDefEqProofs (disch:=omega) only[go_sem]
 rintro i ⟨p1,p2⟩;simp -implicitDefEqProofs (disch:=omega) only[go_sem,encS]
 with_reducible refine aD (fun hb=> ?_) (fun hb=> ?_)<;>have h:=hb<;>(try simp only[wf_preprocess] at h)<;>simp -implicitDefEqProofs (disch:=omega) only[go_sem,hb,encS]<;>(repeat(with_reducible refine And.intro ?_ ?_;focus first|omega|rfl|assumption|exact⟨_,rfl,rfl⟩|(simp;omega)|(simp;done)))
 ·have hi:i<x.aK.length:=by omega
  rw[List.drop_eq_getElem_cons hi] at p2;have p3:among x.aK (gY [] x.bA)=(dec (x.aK[i]∈gY [] x.bA)&&among (x.aK.drop (i+1)) (gY [] x.bA)):=p2.symm
  (repeat(with_reducible refine And.intro ?_ ?_;focus first|omega|rfl|assumption|exact⟨_,rfl,rfl⟩|(simp;omega)|(simp;done)))
  refine aA (NW x.aK[i] x.bA (by omega)) ?_;simp -implicitDefEqProofs (disch:=omega) only[go_sem]<;>(repeat(with_reducible refine And.intro ?_ ?_;focus first|omega|rfl|assumption|exact⟨_,rfl,rfl⟩|(simp;omega)|(simp;done)));rw[Xi]
  with_reducible refine aD (fun hb=> ?_) (fun hb=> ?_)<;>have h:=hb<;>(try simp only[wf_preprocess] at h)<;>simp -implicitDefEqProofs (disch:=omega) only[go_sem,hb]<;>(repeat(with_reducible refine And.intro ?_ ?_;focus first|omega|rfl|assumption|exact⟨_,rfl,rfl⟩|(simp;omega)|(simp;done)))
  ·exact no (by rw[pre,p3,bI h];rfl)
  ·exact dG (i+1) (by omega) rfl rfl ⟨by omega,by rw[p3,bT h];rfl⟩
 rw[List.drop_of_length_le (by omega)] at p2;have p3:among x.aK (gY [] x.bA)=true:=p2.symm;rw[p3,Bool.true_and] at pre;refine(show Hold ((if x.dn=true then jq x.aK x.bC else dec (uq x.bC))=true-> ?T)->_ from fun tail=> ?main) ?tp
 case' main=>
  repeat' (first
   |with_reducible refine aD (fun hb=> ?_) (fun hb=> ?_)<;>have h:=hb<;>(try simp only[wf_preprocess] at h)<;>simp -implicitDefEqProofs (disch:=omega) only[go_sem,hb]<;>(repeat(with_reducible refine And.intro ?_ ?_;focus first|omega|rfl|assumption|exact⟨_,rfl,rfl⟩|(simp;omega)|(simp;done)))
   |((with_reducible show gH _ _ 51 _ _ _ _);refine aA (Dw x.bC x.aK (by omega) (by omega)) ?_;simp -implicitDefEqProofs (disch:=omega) only[go_sem])
   |((with_reducible show gH _ _ 87 _ _ _ _);refine aA (KF x.bC) ?_;simp -implicitDefEqProofs (disch:=omega) only[go_sem])
   |(refine no ?_;rw[pre];grind [gF,jR,bT,bI]))
  all_goals
   have hh:(if x.dn=true then jq x.aK x.bC else dec (uq x.bC))=true:=by grind [gF,jR,bT,bI]
   (repeat(with_reducible refine And.intro ?_ ?_;focus first|omega|rfl|assumption|exact⟨_,rfl,rfl⟩|(simp;omega)|(simp;done)))
   refine yg 4 1 [] rfl (by simp) ?_;refine l8 (st':=[.box (x.enc.map .d),.tok 1 []]::S) [1,4,5] [.c (.ptr (0,0) 0),.c (.bK (0,1) []),.c (.d (.i .i64 0))] ?_ ?_ ?_
   ·rfl
   ·first|(simp -implicitDefEqProofs (disch:=omega) only[go_sem];done)|(simp -implicitDefEqProofs (disch:=omega) only[go_sem];simp[*])
   ·exact tail.out hh
 refine⟨fun hh=> ?_⟩;rw[hh,Bool.true_and] at pre;clear p2 p3 p1 hh no
 have ac3:∀i,∀hi:i<x.aF.length,jW x.aF[i]=false->V.c (.d (.b false))=V.c (.d (.b (eO x))):=fun i hi h=>bad (Bool.eq_false_iff.2 fun hx=>by
  rw[List.all_eq_true.1 hx _ (List.getElem_mem hi)] at h;cases h)
 refine bF (ι:=Nat×List (List UInt8)) zmx rfl [1,4,5] (fun y=>[.c (.ptr (0,0) 0),.c (.bK (0,1) (y.2.map encS)),.c (.d (.i .i64 y.1))]) (fun y=>[.box (x.enc.map .d),.tok 1 (y.2.map encS)]::S)
  (fun y=>y.1<=x.aF.length/\y.2=(jM x).take y.1/\∀j,∀hj:j<x.aF.length,j<y.1->jW x.aF[j]=true) (fun y=>x.aF.length-y.1) (0,[]) rfl ?_ ⟨Nat.zero_le _,rfl,fun j _ h=>by simp only at h;omega⟩ ?_
 ·simp -implicitDefEqProofs (disch:=omega) only[go_sem]
 rintro⟨i,names⟩ ⟨p1,p2,p3⟩;simp only at p1 p2 p3
 have pl:names.length<=x.aF.length:=by rw[p2];simp[jM];omega
 simp -implicitDefEqProofs (disch:=omega) only[go_sem]
 with_reducible refine aD (fun hb=> ?_) (fun hb=> ?_)<;>have h:=hb<;>(try simp only[wf_preprocess] at h)<;>simp -implicitDefEqProofs (disch:=omega) only[go_sem,hb]<;>(repeat(with_reducible refine And.intro ?_ ?_;focus first|omega|rfl|assumption|exact⟨_,rfl,rfl⟩|(simp;omega)|(simp;done)))
 ·have hi:i<x.aF.length:=by omega
  have hm:=hM _ (List.getElem_mem hi);have hms:=aN.sum x.aF[i]
  have hmv:∀s∈x.aF[i].aK,s.length<=4194304:=fun s h=>by have:=Co h;omega
  (repeat(with_reducible refine And.intro ?_ ?_;focus first|omega|rfl|assumption|exact⟨_,rfl,rfl⟩|(simp;omega)|(simp;done)))
  with_reducible refine aD (fun hb=> ?_) (fun hb=> ?_)<;>have h:=hb<;>(try simp only[wf_preprocess] at h)<;>simp -implicitDefEqProofs (disch:=omega) only[go_sem,hb]<;>(repeat(with_reducible refine And.intro ?_ ?_;focus first|omega|rfl|assumption|exact⟨_,rfl,rfl⟩|(simp;omega)|(simp;done)))
  ·exact ac3 i hi (by unfold jW;rw[bI (by omega)];rfl)
  (repeat(with_reducible refine And.intro ?_ ?_;focus first|omega|rfl|assumption|exact⟨_,rfl,rfl⟩|(simp;omega)|(simp;done)))
  refine aA (BG x.aF[i].aK 5 (by omega) hmv) ?_;simp -implicitDefEqProofs (disch:=omega) only[go_sem]<;>(repeat(with_reducible refine And.intro ?_ ?_;focus first|omega|rfl|assumption|exact⟨_,rfl,rfl⟩|(simp;omega)|(simp;done)))
  with_reducible refine aD (fun hb=> ?_) (fun hb=> ?_)<;>have h:=hb<;>(try simp only[wf_preprocess] at h)<;>simp -implicitDefEqProofs (disch:=omega) only[go_sem,hb]<;>(repeat(with_reducible refine And.intro ?_ ?_;focus first|omega|rfl|assumption|exact⟨_,rfl,rfl⟩|(simp;omega)|(simp;done)))
  ·refine ac3 i hi ?_;unfold jW oO
   have:(dec (x.aF[i].aK.length<=5)&&jN x.aF[i].aK)=false:=by
    rw[<-h];congr 1;exact jJ ⟨fun h=>by omega,fun h=>by omega⟩
   rw[<-Bool.and_assoc (dec (x.aF[i].aK.length<=5)),this];simp
  have k1:=h;rw[Bool.and_eq_true] at k1;have k4:=gF k1.1
  (repeat(with_reducible refine And.intro ?_ ?_;focus first|omega|rfl|assumption|exact⟨_,rfl,rfl⟩|(simp;omega)|(simp;done)))
  refine aA (WY x.aF[i].aK x.aF[i].fBody (by omega) (by omega)) ?_;simp -implicitDefEqProofs (disch:=omega) only[go_sem]<;>(repeat(with_reducible refine And.intro ?_ ?_;focus first|omega|rfl|assumption|exact⟨_,rfl,rfl⟩|(simp;omega)|(simp;done)))
  with_reducible refine aD (fun hb=> ?_) (fun hb=> ?_)<;>have h:=hb<;>(try simp only[wf_preprocess] at h)<;>simp -implicitDefEqProofs (disch:=omega) only[go_sem,hb]<;>(repeat(with_reducible refine And.intro ?_ ?_;focus first|omega|rfl|assumption|exact⟨_,rfl,rfl⟩|(simp;omega)|(simp;done)))
  ·exact ac3 i hi (by unfold jW oO;rw[h];simp)
  have k2:=h
  have k3:jW x.aF[i]=true:=by unfold jW oO;rw[k2,k1.2,bT (by omega),bT (by omega)];rfl
  (repeat(with_reducible refine And.intro ?_ ?_;focus first|omega|rfl|assumption|exact⟨_,rfl,rfl⟩|(simp;omega)|(simp;done)))
  rw[show List.map encS names++[[D.s x.aF[i].fName]]=List.map encS (names++[x.aF[i].fName]) by simp[encS]]
  exact dO 2 (by decide) (i+1,names++[x.aF[i].fName]) (by simp only;omega) rfl rfl rfl rfl ⟨by simp only;omega,by simp only;rw[p2,vg (by simpa [jM] using hi)];simp[jM],fun j hj hji=>by
   simp only at hji;by_cases e:j=i
   ·subst e;exact k3
   ·exact p3 j hj (by omega)⟩
 have hi:i=x.aF.length:=by omega
 have hn:names=jM x:=by rw[p2,List.take_of_length_le (by simp[jM];omega)]
 have hall:x.aF.all jW=true:=List.all_eq_true.2 fun c hc=>by
  obtain⟨j,hj,e⟩:=List.getElem_of_mem hc;rw[<-e];exact p3 j hj (by omega)
 have hnl:∀s∈names,s.length<=4194304:=fun s hm=>by
  rw[hn] at hm;obtain⟨g,hg,e⟩:=List.mem_map.1 hm;have:=hM g hg;have:=aN.sum g;rw[<-e];omega
 have hlen:names.length=x.aF.length:=by rw[hn];simp[jM]
 refine aA (BG names 6 (by omega) hnl) ?_;simp -implicitDefEqProofs (disch:=omega) only[go_sem]<;>(repeat(with_reducible refine And.intro ?_ ?_;focus first|omega|rfl|assumption|exact⟨_,rfl,rfl⟩|(simp;omega)|(simp;done)));refine aY ?_;unfold eO;rw[pre,hall,hn,Bool.true_and];congr 1;rw[<-hn,hlen];exact jJ ⟨fun h=>by omega,fun h=>by omega⟩
def wM(P:Program)(N:Nat)(g:St->St):Nat->Code->(Exit->St->Prop)->St->Prop
 |0,c,Q,s=>CW P N c Q (g s)
 |k+1,.seq x y,Q,s=>CW P N x (jy (wM P N g k y Q) Q) s
 |_,_,_,_=>False
theorem QZ{P:Program}{N:Nat}{g:St->St}{c:Code}{Q:Exit->St->Prop}{s:St}:wM P N g 0 c Q s=CW P N c Q (g s):=by rw[wM]
theorem xg{P:Program}{N k:Nat}{g:St->St}{x y:Code}{Q:Exit->St->Prop}{s:St}:wM P N g (k+1) (.seq x y) Q s=CW P N x (jy (wM P N g k y Q) Q) s:=by rw[wM]
theorem ac4{P:Program}{N:Nat}{g:St->St}{x y:Code}{Q:Exit->St->Prop}{s:St}:wM P N g 5 (.seq x y) Q s=CW P N x (jy (wM P N g 4 y Q) Q) s:=xg
theorem ac5{P:Program}{N:Nat}{g:St->St}{x y:Code}{Q:Exit->St->Prop}{s:St}:wM P N g 4 (.seq x y) Q s=CW P N x (jy (wM P N g 3 y Q) Q) s:=xg
theorem ZT{P:Program}{N:Nat}{g:St->St}{x y:Code}{Q:Exit->St->Prop}{s:St}:wM P N g 3 (.seq x y) Q s=CW P N x (jy (wM P N g 2 y Q) Q) s:=xg
theorem afg{P:Program}{N:Nat}{g:St->St}{x y:Code}{Q:Exit->St->Prop}{s:St}:wM P N g 2 (.seq x y) Q s=CW P N x (jy (wM P N g 1 y Q) Q) s:=xg
theorem afh{P:Program}{N:Nat}{g:St->St}{x y:Code}{Q:Exit->St->Prop}{s:St}:wM P N g 1 (.seq x y) Q s=CW P N x (jy (wM P N g 0 y Q) Q) s:=xg
attribute [go_sem] QZ ac4 ac5 ZT afg afh
theorem Nh{P:Program}{N:Nat}{g:St->St}(hg:∀s,fP N s (g s))(fA:P.follows .mixedOrders=true):∀(k:Nat)(c:Code)(Q:Exit->St->Prop)(s:St),codeOk N c=true->wM P N g k c Q s->AW P N c Q s
 |0,c,Q,s,ok,h=>by
  rw[QZ] at h;exact kD (iY fA c Q _ ok h) (hg s)
 |k+1,.seq x y,Q,s,ok,h=>by
  rw[xg] at h;simp only[codeOk,Bool.and_eq_true] at ok;refine EA (AW.mono (iY fA x _ s ok.1 h) fun e s' h'=> ?_)
  cases e with
  |normal=>exact Nh hg fA k y Q s' ok.2 h'
  |_=>exact h'
 |k+1,.region ..,_,_,_,h=>h.elim
 |k+1,.cond ..,_,_,_,h=>h.elim
 |k+1,.block ..,_,_,_,h=>h.elim
 |k+1,.exit ..,_,_,_,h=>h.elim
 |k+1,.ret,_,_,_,h=>h.elim
 |k+1,.skip,_,_,_,h=>h.elim
 |k+1,.loop ..,_,_,_,h=>h.elim
theorem xP{P:Program}{S:Store}{N:Nat}(n k n' pos:Nat){f:FuncId}{fn:Func}{c:Code}{args:List V}{post:V->Store->Prop}{rs:List ResultVar}(fA:P.follows .mixedOrders=true)(hf:P.funcs[f]? =some fn)(hN:fn.ntmps=N)
 (hb:fn.body=some c) (hn:(fn.name== "runtime.NumGoroutine")=false) (hr:fn.results.toList=rs) (hl:Nat.ble args.length N=true) (hok:codeOk N c=true)
 (h:wM P N (Aq n') pos c (Qy P n rs post) ⟨jZ (args.map (V.up 1)) 0,[.seed n,.seed k]::S⟩):bJ P f args S post:=by
 subst hN;subst hr;exact oW hf hb hn (Nat.le_of_ble_eq_true hl) (QA n k (zQ (Al n) (Nh (LY n') fA pos c _ _ hok h)))
def tO:List UInt8:=[105,110,115,116]
def lG:List UInt8:=[100,101,102,97,117,108,116]
def iP(x:aH):List (List UInt8):=if x.fq=true then [lG] else []
def iQ(x:aH):List ah:=if x.dn=true then [dK x.bC] else []
def lT(m:aN):ah:=bS [bH m.fName,bS (aR m.aK),dX m.fBody]
def kg(x:aH):List ah:=[bH tO,bH x.bg,bS (aR x.aK),dK x.bA,bS (x.bR.map oh),bS (aR (iP x)),bS (iQ x)]
def qg(x:aH):ah:=bS (kg x++x.aF.map lT)
noncomputable def kI(x:aH):ah:=wm (eO x) (qg x)
theorem afi{x:aH}(h:x.sz<=1048576):(kI x).sz<=1048576:=Nat.le_trans (zy _ _) (by decide)
theorem afj(m:aN)(hok:gU m.fBody=true):(lT m).sz<=27+32*m.sz:=by
 have h1:=QF m.fBody hok;have h3:=aN.sum m;rw[gL] at h3;rw[lT,tJ];simp[dJ,mV,tJ,kL,Bb];omega
theorem Q0:∀l:List aN,(∀g∈l,gU g.fBody=true)->dJ (l.map lT)<=27*l.length+32*bB (l.map aN.enc)
 |[],_=>by simp[dJ]
 |c::l,h=>by
  have h1:=afj c (h c (List.mem_cons_self ..));have h2:=Q0 l fun g hg=>h g (List.mem_cons_of_mem _ hg);rw[List.map_cons,dJ,List.map_cons,bB,List.length_cons];simp only[aN.sz] at h1;omega
theorem lH{x:aH}(h:eO x=true):formed x.bA=true/\(∀b∈x.bR,formed b.fType=true)/\(x.dn=true->formed x.bC=true)/\(∀m∈x.aF,gU m.fBody=true):=by
 unfold eO qW at h;simp only[Bool.and_eq_true] at h;obtain⟨⟨_,_,_,h1,_,_,_,h2,h3,_⟩,h4,_⟩:=h;refine⟨Bg h1,GQ h2,fun ha=> ?_,fun m hm=> ?_⟩
 ·rw[if_pos ha] at h3;exact Bg h3
 ·have h5:=List.all_eq_true.1 h4 m hm;unfold jW at h5;simp only[Bool.and_eq_true] at h5;exact M8 h5.2.2
theorem CF{x:aH}(hok:eO x=true):(qg x).sz<=96+40*x.sz:=by
 obtain⟨_,_,_,hm⟩:=lH hok;have h1:=Q0 x.aF hm;have h2:=Ug x.bR;have h3:=aH.sum x;have h4:=Fh x.bA;have h5:=Fh x.bC
 have h6:(iP x).length<=1/\((iP x).map List.length).sum<=7:=by unfold iP;split<;>simp[lG]
 have h7:(iQ x).length<=1/\dJ (iQ x)<=(dK x.bC).sz:=by unfold iQ;split<;>simp[dJ]
 rw[gL] at h3;rw[qg,tJ,lq,List.length_append,List.length_map];simp[kg,dJ,mV,tJ,kL,Bb,tO];omega
theorem Xk(n:Nat)(a b:List UInt8)(w v:List (List UInt8))(h:ah)(bs zs:List ah):lx [bH a,bH b,bS (aR w),h,bS bs,bS (aR v),bS zs] (n+1)=[[.s a,.ol (n+1) []],[.s b,.ol (n+1+1) []],[.s [],.ol (n+1+1+1) (lx (aR w) (n+1+1+1+1))],[.s h.aU,.ol (n+1+1+1+eu (bS (aR w))) (lx h.aj (n+1+1+1+eu (bS (aR w))+1))],[.s [],.ol (n+1+1+1+eu (bS (aR w))+eu h) (lx bs (n+1+1+1+eu (bS (aR w))+eu h+1))],
 [.s [],.ol (n+1+1+1+eu (bS (aR w))+eu h+eu (bS bs)) (lx (aR v) (n+1+1+1+eu (bS (aR w))+eu h+eu (bS bs)+1))],[.s [],.ol (n+1+1+1+eu (bS (aR w))+eu h+eu (bS bs)+eu (bS (aR v))) (lx zs (n+1+1+1+eu (bS (aR w))+eu h+eu (bS bs)+eu (bS (aR v))+1))]]:=by
 simp only[qb,uj,l9,tF,tH,d9,dP,vB]
theorem Q5(n:Nat)(es:List (List D)):Less (.c (.d (.ol n es))) (.c (.d (.sl es))):=fun w σ S β v h=>⟨rX h.1,h.2⟩
theorem FE(x:aH)(n:Nat)(hv:eO x=true)(hsz:x.sz<=1048576):aJ prog 80 [x.v] (.agg [.d (.s []),.d (.ol n (lx (qg x).aj (n+1)))]):=fun S=>by
 have hdz:=aH.sum x;rw[gL] at hdz;obtain⟨hf1,hf2,hf3,KP⟩:=lH hv;obtain⟨p,hp⟩:∃p:Nat,p=n+1+1+1+eu (bS (aR x.aK))+eu (dK x.bA)+eu (bS (x.bR.map oh))+eu (bS (aR (iP x))):=⟨_,rfl⟩;obtain⟨L,hL⟩:∃L:Nat->Nat,L=fun i=>n+1+iJ (kg x++(x.aF.map lT).take i):=⟨_,rfl⟩;obtain⟨T,hT⟩:∃T:Nat->List (List D),T=fun i=>lx (kg x++(x.aF.map lT).take i) (n+1):=⟨_,rfl⟩
 have hT0:T 0=[[.s tO,.ol (n+1) []],[.s x.bg,.ol (n+1+1) []],[.s [],.ol (n+1+1+1) (lx (aR x.aK) (n+1+1+1+1))],[.s (dK x.bA).aU,.ol (n+1+1+1+eu (bS (aR x.aK))) (lx (dK x.bA).aj (n+1+1+1+eu (bS (aR x.aK))+1))],[.s [],.ol (n+1+1+1+eu (bS (aR x.aK))+eu (dK x.bA)) (lx (x.bR.map oh) (n+1+1+1+eu (bS (aR x.aK))+eu (dK x.bA)+1))],[.s [],.ol (n+1+1+1+eu (bS (aR x.aK))+eu (dK x.bA)+eu (bS (x.bR.map oh))) (lx (aR (iP x)) (n+1+1+1+eu (bS (aR x.aK))+eu (dK x.bA)+eu (bS (x.bR.map oh))+1))],[.s [],.ol p (lx (iQ x) (p+1))]]:=by
  rw[hT,hp];simp only[List.take_zero,List.append_nil,kg,Xk]
 have lF:∀i,(T i).length<=i+7:=fun i=>by
  rw[hT];simp only[iy,List.length_append];have:=List.length_take_le i (x.aF.map lT);simp[kg];omega
 have hTs:∀i (hi:i<x.aF.length),T i++[[.s [],.ol (L i) [[.s x.aF[i].fName,.ol (L i+1) []],[.s [],.ol (L i+1+1) (lx (aR x.aF[i].aK) (L i+1+1+1))],[.s (dX x.aF[i].fBody).aU,.ol (L i+1+1+eu (bS (aR x.aF[i].aK))) (lx (dX x.aF[i].fBody).aj (L i+1+1+eu (bS (aR x.aF[i].aK))+1))]]]]=T (i+1):=fun i hi=>by
  have:=QD (base:=kg x) (l:=x.aF.map lT) (i:=i) (by rw[List.length_map];exact hi) (n+1);rw[List.getElem_map,lT,d9,dP] at this;simp only[qb,uj,l9,tF,tH,d9,dP,vB] at this;rw[hT,hL];exact this
 have hTr:∀i,∀r∈T i,r.length=2:=fun i=>by rw[hT];exact mW
 have hTe:T x.aF.length=lx (qg x).aj (n+1):=by
  rw[hT];simp only
  rw[List.take_of_length_le (by simp)];rfl
 clear hT hL;refine(show Hold ?T->_ from fun tail=> ?main) ?tp
 case' main=>
  cases ha:x.fq<;>cases hs:x.dn
  ·have hfl:iP x=[]:=by unfold iP;rw[ha];rfl
   have has:iQ x=[]:=by unfold iQ;rw[hs];rfl
   refine xP (p) 1 (n) 5 (rs:=[.cell 2 39]) zmx func80 ntmps80 rfl rfl rfl rfl rfl ?_;simp -implicitDefEqProofs (disch:=omega) only[go_sem,ha,hs]
   (repeat(with_reducible refine And.intro ?_ ?_;focus first|omega|rfl|assumption|exact⟨_,rfl,rfl⟩|(simp;omega)|(simp;done)))
   refine aA (dS _ (n+1)) ?_;simp -implicitDefEqProofs (disch:=omega) only[go_sem];refine aA (dS _ (n+1+1)) ?_;simp -implicitDefEqProofs (disch:=omega) only[go_sem];refine aA (iK x.aK (by omega) (n+1+1+1)) ?_;simp -implicitDefEqProofs (disch:=omega) only[go_sem];refine aA (oN x.bA (n+1+1+1+eu (bS (aR x.aK))) hf1 (by omega)) ?_;simp -implicitDefEqProofs (disch:=omega) only[go_sem];refine aA (uw x.bR (n+1+1+1+eu (bS (aR x.aK))+eu (dK x.bA)) hf2 (by omega) (fun b hb=>by have:=rF hb;omega)) ?_;simp -implicitDefEqProofs (disch:=omega) only[go_sem];refine wo (iK [] (by simp) (n+1+1+1+eu (bS (aR x.aK))+eu (dK x.bA)+eu (bS (x.bR.map oh)))) (.cons (mP p _) .nil) ?_;simp -implicitDefEqProofs (disch:=omega) only[go_sem];refine aA (tK _ _) ?_;simp -implicitDefEqProofs (disch:=omega) only[go_sem]
   (repeat(with_reducible refine And.intro ?_ ?_;focus first|omega|rfl|assumption|exact⟨_,rfl,rfl⟩|(simp;omega)|(simp;done)))
   refine nQ n 5 2 (T 0) (.inl ?_) (hTr 0) ?_
   ·rw[hT0,hfl,has];rfl
   refine yh (L 0) ?_;refine l8 (st':=[.seed (L 0),.seed 1,.box [.d (.s x.bg),.d (.sl (x.aK.map encS)),.d (.i .i64 x.bA.aI),.d (.s x.bA.fName),.d (.sl (x.bA.fArgs.map au.enc)),.d (.sl (x.bR.map aM.enc)),.d (.b x.fq),.d (.b x.dn),.d (.i .i64 x.bC.aI),.d (.s x.bC.fName),.d (.sl (x.bC.fArgs.map au.enc)),.d (.sl (x.aF.map aN.enc))],.box [.d (.s []),.bE []],.dY n 2 (T 0)]::S) [2,5,42,43,44] [.c (.ptr (0,3) 0),.c (.bK (0,4) (T 0)),.c (.d (.sl (x.aF.map aN.enc))),.c (.d (.i .i64 x.aF.length)),.c (.d (.i .i64 0))] ?_ ?_ ?_
   ·rfl
   ·rw[ha,hs];rfl
   ·exact tail.out
  ·have hfl:iP x=[]:=by unfold iP;rw[ha];rfl
   have has:iQ x=[dK x.bC]:=by unfold iQ;rw[hs];rfl
   refine xP (p) 1 (n) 5 (rs:=[.cell 2 39]) zmx func80 ntmps80 rfl rfl rfl rfl rfl ?_;simp -implicitDefEqProofs (disch:=omega) only[go_sem,ha,hs]
   (repeat(with_reducible refine And.intro ?_ ?_;focus first|omega|rfl|assumption|exact⟨_,rfl,rfl⟩|(simp;omega)|(simp;done)))
   refine aA (oN x.bC (p+1) (hf3 hs) (by omega)) ?_;simp -implicitDefEqProofs (disch:=omega) only[go_sem]
   (repeat(with_reducible refine And.intro ?_ ?_;focus first|omega|rfl|assumption|exact⟨_,rfl,rfl⟩|(simp;omega)|(simp;done)))
   refine aA (dS _ (n+1)) ?_;simp -implicitDefEqProofs (disch:=omega) only[go_sem];refine aA (dS _ (n+1+1)) ?_;simp -implicitDefEqProofs (disch:=omega) only[go_sem];refine aA (iK x.aK (by omega) (n+1+1+1)) ?_;simp -implicitDefEqProofs (disch:=omega) only[go_sem];refine aA (oN x.bA (n+1+1+1+eu (bS (aR x.aK))) hf1 (by omega)) ?_;simp -implicitDefEqProofs (disch:=omega) only[go_sem];refine aA (uw x.bR (n+1+1+1+eu (bS (aR x.aK))+eu (dK x.bA)) hf2 (by omega) (fun b hb=>by have:=rF hb;omega)) ?_;simp -implicitDefEqProofs (disch:=omega) only[go_sem];refine wo (iK [] (by simp) (n+1+1+1+eu (bS (aR x.aK))+eu (dK x.bA)+eu (bS (x.bR.map oh)))) (.cons (mP p _) .nil) ?_;simp -implicitDefEqProofs (disch:=omega) only[go_sem];refine aA (wz _) ?_;simp -implicitDefEqProofs (disch:=omega) only[go_sem]
   (repeat(with_reducible refine And.intro ?_ ?_;focus first|omega|rfl|assumption|exact⟨_,rfl,rfl⟩|(simp;omega)|(simp;done)))
   refine nQ n 5 2 (T 0) (.inl ?_) (hTr 0) ?_
   ·rw[hT0,hfl,has,qb,uj,l9];rfl
   refine yh (L 0) ?_;refine l8 (st':=[.seed (L 0),.seed 1,.box [.d (.s x.bg),.d (.sl (x.aK.map encS)),.d (.i .i64 x.bA.aI),.d (.s x.bA.fName),.d (.sl (x.bA.fArgs.map au.enc)),.d (.sl (x.bR.map aM.enc)),.d (.b x.fq),.d (.b x.dn),.d (.i .i64 x.bC.aI),.d (.s x.bC.fName),.d (.sl (x.bC.fArgs.map au.enc)),.d (.sl (x.aF.map aN.enc))],.box [.d (.s []),.bE []],.dY n 2 (T 0)]::S) [2,5,42,43,44] [.c (.ptr (0,3) 0),.c (.bK (0,4) (T 0)),.c (.d (.sl (x.aF.map aN.enc))),.c (.d (.i .i64 x.aF.length)),.c (.d (.i .i64 0))] ?_ ?_ ?_
   ·rfl
   ·rw[ha,hs];rfl
   ·exact tail.out
  ·have hfl:iP x=[lG]:=by unfold iP;rw[ha];rfl
   have has:iQ x=[]:=by unfold iQ;rw[hs];rfl
   refine xP (p) 1 (n) 5 (rs:=[.cell 2 39]) zmx func80 ntmps80 rfl rfl rfl rfl rfl ?_;simp -implicitDefEqProofs (disch:=omega) only[go_sem,ha,hs]
   (repeat(with_reducible refine And.intro ?_ ?_;focus first|omega|rfl|assumption|exact⟨_,rfl,rfl⟩|(simp;omega)|(simp;done)))
   refine aA (dS _ (n+1)) ?_;simp -implicitDefEqProofs (disch:=omega) only[go_sem];refine aA (dS _ (n+1+1)) ?_;simp -implicitDefEqProofs (disch:=omega) only[go_sem];refine aA (iK x.aK (by omega) (n+1+1+1)) ?_;simp -implicitDefEqProofs (disch:=omega) only[go_sem];refine aA (oN x.bA (n+1+1+1+eu (bS (aR x.aK))) hf1 (by omega)) ?_;simp -implicitDefEqProofs (disch:=omega) only[go_sem];refine aA (uw x.bR (n+1+1+1+eu (bS (aR x.aK))+eu (dK x.bA)) hf2 (by omega) (fun b hb=>by have:=rF hb;omega)) ?_;simp -implicitDefEqProofs (disch:=omega) only[go_sem];refine wo (iK [lG] (by simp) (n+1+1+1+eu (bS (aR x.aK))+eu (dK x.bA)+eu (bS (x.bR.map oh)))) (.cons (Q5 p _) .nil) ?_;simp -implicitDefEqProofs (disch:=omega) only[go_sem];refine aA (tK _ _) ?_;simp -implicitDefEqProofs (disch:=omega) only[go_sem]
   (repeat(with_reducible refine And.intro ?_ ?_;focus first|omega|rfl|assumption|exact⟨_,rfl,rfl⟩|(simp;omega)|(simp;done)))
   refine nQ n 5 2 (T 0) (.inl ?_) (hTr 0) ?_
   ·rw[hT0,hfl,has];rfl
   refine yh (L 0) ?_;refine l8 (st':=[.seed (L 0),.seed 1,.box [.d (.s x.bg),.d (.sl (x.aK.map encS)),.d (.i .i64 x.bA.aI),.d (.s x.bA.fName),.d (.sl (x.bA.fArgs.map au.enc)),.d (.sl (x.bR.map aM.enc)),.d (.b x.fq),.d (.b x.dn),.d (.i .i64 x.bC.aI),.d (.s x.bC.fName),.d (.sl (x.bC.fArgs.map au.enc)),.d (.sl (x.aF.map aN.enc))],.box [.d (.s []),.bE []],.dY n 2 (T 0)]::S) [2,5,42,43,44] [.c (.ptr (0,3) 0),.c (.bK (0,4) (T 0)),.c (.d (.sl (x.aF.map aN.enc))),.c (.d (.i .i64 x.aF.length)),.c (.d (.i .i64 0))] ?_ ?_ ?_
   ·rfl
   ·rw[ha,hs];rfl
   ·exact tail.out
  ·have hfl:iP x=[lG]:=by unfold iP;rw[ha];rfl
   have has:iQ x=[dK x.bC]:=by unfold iQ;rw[hs];rfl
   refine xP (p) 1 (n) 5 (rs:=[.cell 2 39]) zmx func80 ntmps80 rfl rfl rfl rfl rfl ?_;simp -implicitDefEqProofs (disch:=omega) only[go_sem,ha,hs]
   (repeat(with_reducible refine And.intro ?_ ?_;focus first|omega|rfl|assumption|exact⟨_,rfl,rfl⟩|(simp;omega)|(simp;done)))
   refine aA (oN x.bC (p+1) (hf3 hs) (by omega)) ?_;simp -implicitDefEqProofs (disch:=omega) only[go_sem]
   (repeat(with_reducible refine And.intro ?_ ?_;focus first|omega|rfl|assumption|exact⟨_,rfl,rfl⟩|(simp;omega)|(simp;done)))
   refine aA (dS _ (n+1)) ?_;simp -implicitDefEqProofs (disch:=omega) only[go_sem];refine aA (dS _ (n+1+1)) ?_;simp -implicitDefEqProofs (disch:=omega) only[go_sem];refine aA (iK x.aK (by omega) (n+1+1+1)) ?_;simp -implicitDefEqProofs (disch:=omega) only[go_sem];refine aA (oN x.bA (n+1+1+1+eu (bS (aR x.aK))) hf1 (by omega)) ?_;simp -implicitDefEqProofs (disch:=omega) only[go_sem];refine aA (uw x.bR (n+1+1+1+eu (bS (aR x.aK))+eu (dK x.bA)) hf2 (by omega) (fun b hb=>by have:=rF hb;omega)) ?_;simp -implicitDefEqProofs (disch:=omega) only[go_sem];refine wo (iK [lG] (by simp) (n+1+1+1+eu (bS (aR x.aK))+eu (dK x.bA)+eu (bS (x.bR.map oh)))) (.cons (Q5 p _) .nil) ?_;simp -implicitDefEqProofs (disch:=omega) only[go_sem];refine aA (wz _) ?_;simp -implicitDefEqProofs (disch:=omega) only[go_sem]
   (repeat(with_reducible refine And.intro ?_ ?_;focus first|omega|rfl|assumption|exact⟨_,rfl,rfl⟩|(simp;omega)|(simp;done)))
   refine nQ n 5 2 (T 0) (.inl ?_) (hTr 0) ?_
   ·rw[hT0,hfl,has,qb,uj,l9];rfl
   refine yh (L 0) ?_;refine l8 (st':=[.seed (L 0),.seed 1,.box [.d (.s x.bg),.d (.sl (x.aK.map encS)),.d (.i .i64 x.bA.aI),.d (.s x.bA.fName),.d (.sl (x.bA.fArgs.map au.enc)),.d (.sl (x.bR.map aM.enc)),.d (.b x.fq),.d (.b x.dn),.d (.i .i64 x.bC.aI),.d (.s x.bC.fName),.d (.sl (x.bC.fArgs.map au.enc)),.d (.sl (x.aF.map aN.enc))],.box [.d (.s []),.bE []],.dY n 2 (T 0)]::S) [2,5,42,43,44] [.c (.ptr (0,3) 0),.c (.bK (0,4) (T 0)),.c (.d (.sl (x.aF.map aN.enc))),.c (.d (.i .i64 x.aF.length)),.c (.d (.i .i64 0))] ?_ ?_ ?_
   ·rfl
   ·rw[ha,hs];rfl
   ·exact tail.out
 refine⟨?_⟩
 refine bF (ι:=Nat) zmx rfl [2,5,42,43,44] (fun i=>[.c (.ptr (0,3) 0),.c (.bK (0,4) (T i)),.c (.d (.sl (x.aF.map aN.enc))),.c (.d (.i .i64 x.aF.length)),.c (.d (.i .i64 i))])
  (fun i=>[.seed (L i),.seed 1,.box [.d (.s x.bg),.d (.sl (x.aK.map encS)),.d (.i .i64 x.bA.aI),.d (.s x.bA.fName),.d (.sl (x.bA.fArgs.map au.enc)),.d (.sl (x.bR.map aM.enc)),.d (.b x.fq),.d (.b x.dn),.d (.i .i64 x.bC.aI),.d (.s x.bC.fName),.d (.sl (x.bC.fArgs.map au.enc)),.d (.sl (x.aF.map aN.enc))],.box [.d (.s []),.bE []],.dY n 2 (T i)]::S)
  (fun i=>i<=x.aF.length) (fun i=>x.aF.length-i) 0 rfl rfl (Nat.zero_le _) ?_
 intro i hi;have hl:=lF i;simp -implicitDefEqProofs (disch:=omega) only[go_sem]
 with_reducible refine aD (fun hb=> ?_) (fun hb=> ?_)<;>have h:=hb<;>(try simp only[wf_preprocess] at h)<;>simp -implicitDefEqProofs (disch:=omega) only[go_sem,hb]<;>(repeat(with_reducible refine And.intro ?_ ?_;focus first|omega|rfl|assumption|exact⟨_,rfl,rfl⟩|(simp;omega)|(simp;done)))
 ·have hi':i<x.aF.length:=by omega
  have hm:=List.getElem_mem hi';have hcz:=w9 hm;have hce:=aN.sum x.aF[i];rw[gL] at hce;have hst:=hTs i hi'
  (repeat(with_reducible refine And.intro ?_ ?_;focus first|omega|rfl|assumption|exact⟨_,rfl,rfl⟩|(simp;omega)|(simp;done)))
  refine aA (dS _ (L i+1)) ?_;simp -implicitDefEqProofs (disch:=omega) only[go_sem];refine aA (iK x.aF[i].aK (by omega) (L i+1+1)) ?_;simp -implicitDefEqProofs (disch:=omega) only[go_sem];refine aA (WM x.aF[i].fBody (L i+1+1+eu (bS (aR x.aF[i].aK))) (KP _ hm) (by omega)) ?_;simp -implicitDefEqProofs (disch:=omega) only[go_sem]
  (repeat(with_reducible refine And.intro ?_ ?_;focus first|omega|rfl|assumption|exact⟨_,rfl,rfl⟩|(simp;omega)|(simp;done)))
  refine aA (tK _ _) ?_;simp -implicitDefEqProofs (disch:=omega) only[go_sem]
  (repeat(with_reducible refine And.intro ?_ ?_;focus first|omega|rfl|assumption|exact⟨_,rfl,rfl⟩|(simp;omega)|(simp;done)))
  rw[hst];refine Qz (L (i+1)) 4 (by decide) (i+1) (by omega) rfl rfl ?_ rfl (by omega);simp[nk,jk,V.refs,C.refs,om]
 ·have hi':i=x.aF.length:=by omega
  refine aT rfl (lD 0 4 _ _) ?_;simp -implicitDefEqProofs (disch:=omega) only[go_sem];rw[hi',hTe]
theorem Ni(x:aH)(n:Nat)(hsz:x.sz<=1048576):aJ prog 25 [x.v] (.agg [.d (.s (kI x).aU),.d (.ol n (lx (kI x).aj (n+1)))]):=by
 unfold kI
 cases hv:eO x with
 |false=>
  rw[wm];refine aJ.less (fun S=> ?_) (LV [] n);refine zcx [.cell 2 39] func25 ntmps25 ?_;simp -implicitDefEqProofs (disch:=omega) only[go_sem];refine aA (qM x (by omega)) ?_;simp -implicitDefEqProofs (disch:=omega) only[go_sem,hv]
 |true=>
  intro S;have hz:=CF hv;refine zcx [.cell 2 39] func25 ntmps25 ?_;simp -implicitDefEqProofs (disch:=omega) only[go_sem];refine aA (qM x (by omega)) ?_;simp -implicitDefEqProofs (disch:=omega) only[go_sem,hv];refine aA (FE x n hv hsz) ?_;simp -implicitDefEqProofs (disch:=omega) only[go_sem];refine aA (WE (qg x) n (by omega)) ?_;simp -implicitDefEqProofs (disch:=omega) only[go_sem];rfl
theorem ac6(x:aH)(hv:eO x=true)(hsz:x.sz<=1048576)(ha:x.fq=true)(hs:x.dn=true):aJ prog 26 [x.v] (Bc (qg x)).v:=fun S=>by
 have hdz:=aH.sum x;rw[gL] at hdz;obtain⟨hf1,hf2,hf3,KP⟩:=lH hv;have hz:=CF hv
 have hfl:iP x=[lG]:=by unfold iP;rw[ha];rfl
 have has:iQ x=[dK x.bC]:=by unfold iQ;rw[hs];rfl
 obtain⟨T,hT⟩:∃T:Nat->List (List D),T=fun i=>(kg x++(x.aF.map lT).take i).map ah.enc:=⟨_,rfl⟩
 have hT0:T 0=[[.s tO,.sl []],[.s x.bg,.sl []],[.s [],.sl ((aR x.aK).map ah.enc)],[.s (dK x.bA).aU,.sl ((dK x.bA).aj.map ah.enc)],[.s [],.sl ((x.bR.map oh).map ah.enc)],[.s [],.sl ((aR [lG]).map ah.enc)],[.s [],.sl [[.s (dK x.bC).aU,.sl ((dK x.bC).aj.map ah.enc)]]]]:=by
  rw[hT];simp only[List.take_zero,List.append_nil,kg,hfl,has,List.map_cons,List.map_nil,gq,sN,ah.aB (dK x.bA),ah.aB (dK x.bC)]
 have lF:∀i,(T i).length<=i+7:=fun i=>by
  rw[hT];simp only[List.length_map,List.length_append];have:=List.length_take_le i (x.aF.map lT);simp[kg];omega
 have hTs:∀i (hi:i<x.aF.length),T i++[[.s [],.sl [[.s x.aF[i].fName,.sl []],[.s [],.sl ((aR x.aF[i].aK).map ah.enc)],[.s (dX x.aF[i].fBody).aU,.sl ((dX x.aF[i].fBody).aj.map ah.enc)]]]]=T (i+1):=fun i hi=>by
  have:=lQ (base:=kg x) (l:=x.aF.map lT) (i:=i) (by rw[List.length_map];exact hi);rw[List.getElem_map,lT,d9,dP] at this;simp only[List.map_cons,List.map_nil,gq,sN,ah.aB (dX x.aF[i].fBody)] at this;rw[hT];exact this
 have hTr:∀i,∀r∈T i,r.length=2:=fun i=>by rw[hT];exact gW
 have hTe:T x.aF.length=(qg x).aj.map ah.enc:=by
  rw[hT];simp only
  rw[List.take_of_length_le (by simp)];rfl
 clear hT;refine zcx [.cell 2 39] func26 ntmps26 ?_;simp -implicitDefEqProofs (disch:=omega) only[go_sem];refine aA (mh x (by omega)) ?_;simp -implicitDefEqProofs (disch:=omega) only[go_sem,hv,ha,hs]
 (repeat(with_reducible refine And.intro ?_ ?_;focus first|omega|rfl|assumption|exact⟨_,rfl,rfl⟩|(simp;omega)|(simp;done)))
 refine aA (qx x.bC (by omega)) ?_;simp -implicitDefEqProofs (disch:=omega) only[go_sem]
 (repeat(with_reducible refine And.intro ?_ ?_;focus first|omega|rfl|assumption|exact⟨_,rfl,rfl⟩|(simp;omega)|(simp;done)))
 refine aA (nN _ (by simp) (by simp)) ?_;simp -implicitDefEqProofs (disch:=omega) only[go_sem]
 (repeat(with_reducible refine And.intro ?_ ?_;focus first|omega|rfl|assumption|exact⟨_,rfl,rfl⟩|(simp;omega)|(simp;done)))
 refine aA (bO _) ?_;simp -implicitDefEqProofs (disch:=omega) only[go_sem];refine aA (bO _) ?_;simp -implicitDefEqProofs (disch:=omega) only[go_sem];refine aA (gD x.aK (by omega)) ?_;simp -implicitDefEqProofs (disch:=omega) only[go_sem];refine aA (qx x.bA (by omega)) ?_;simp -implicitDefEqProofs (disch:=omega) only[go_sem];refine aA (wD x.bR (by omega) (fun b hb=>by have:=rF hb;omega)) ?_;simp -implicitDefEqProofs (disch:=omega) only[go_sem];refine aA (gD [lG] (by simp)) ?_;simp -implicitDefEqProofs (disch:=omega) only[go_sem];have hE:=fun bD Ω=>wB (T 0) (hTr 0) (by have:=lF 0;omega) bD Ω;simp only[hT0] at hE;refine cZ [false] rfl (hE _ _) ?_;simp -implicitDefEqProofs (disch:=omega) only[go_sem]
 refine bF (ι:=Nat) zmx rfl [1,2,5,6] (fun i=>[.c (.ptr (0,0) 0),.c (.ptr (0,1) 0),.c (.ptr (0,6) 0),.c (.d (.i .i64 i))])
  (fun i=>[.box [.d (.s x.bg),.d (.sl (x.aK.map encS)),.d (.i .i64 x.bA.aI),.d (.s x.bA.fName),.d (.sl (x.bA.fArgs.map au.enc)),.d (.sl (x.bR.map aM.enc)),.d (.b true),.d (.b true),.d (.i .i64 x.bC.aI),.d (.s x.bC.fName),.d (.sl (x.bC.fArgs.map au.enc)),.d (.sl (x.aF.map aN.enc))],.box [.d (.s []),.bE []],.tok 1 [[.s lG]],.box [.d (.s []),.d (.sl [[.s (dK x.bC).aU,.sl ((dK x.bC).aj.map ah.enc)]])],.box [.d (.s []),.bK (0,5) (T 0)],.tok 2 (T i),.box [.d (.s []),.bK (0,5) (T i)]]::S)
  (fun i=>i<=x.aF.length) (fun i=>x.aF.length-i) 0 rfl (by simp only[hT0]<;>(try rfl)) (Nat.zero_le _) ?_
 intro i hi;have hl:=lF i;simp -implicitDefEqProofs (disch:=omega) only[go_sem]
 with_reducible refine aD (fun hb=> ?_) (fun hb=> ?_)<;>have h:=hb<;>(try simp only[wf_preprocess] at h)<;>simp -implicitDefEqProofs (disch:=omega) only[go_sem,hb]<;>(repeat(with_reducible refine And.intro ?_ ?_;focus first|omega|rfl|assumption|exact⟨_,rfl,rfl⟩|(simp;omega)|(simp;done)))
 ·have hi':i<x.aF.length:=by omega
  have hm:=List.getElem_mem hi';have hcz:=w9 hm;have hce:=aN.sum x.aF[i];rw[gL] at hce;have hst:=hTs i hi'
  (repeat(with_reducible refine And.intro ?_ ?_;focus first|omega|rfl|assumption|exact⟨_,rfl,rfl⟩|(simp;omega)|(simp;done)))
  refine aA (bO _) ?_;simp -implicitDefEqProofs (disch:=omega) only[go_sem];refine aA (gD x.aF[i].aK (by omega)) ?_;simp -implicitDefEqProofs (disch:=omega) only[go_sem];refine aA (Bf x.aF[i].fBody (KP _ hm) (by omega)) ?_;simp -implicitDefEqProofs (disch:=omega) only[go_sem];refine aA (nN _ (by simp) (by simp)) ?_;simp -implicitDefEqProofs (disch:=omega) only[go_sem]
  (repeat(with_reducible refine And.intro ?_ ?_;focus first|omega|rfl|assumption|exact⟨_,rfl,rfl⟩|(simp;omega)|(simp;done)))
  rw[hst];exact dO 7 (by decide) (i+1) (by omega) rfl rfl rfl rfl (by omega)
 ·have hi':i=x.aF.length:=by omega
  subst hi';rw[hTe];refine aA (Bd true (qg x) (by omega)) ?_;simp -implicitDefEqProofs (disch:=omega) only[go_sem];rfl
theorem ac7(x:aH)(hv:eO x=true)(hsz:x.sz<=1048576)(ha:x.fq=true)(hs:x.dn=false):aJ prog 26 [x.v] (Bc (qg x)).v:=fun S=>by
 have hdz:=aH.sum x;rw[gL] at hdz;obtain⟨hf1,hf2,hf3,KP⟩:=lH hv;have hz:=CF hv
 have hfl:iP x=[lG]:=by unfold iP;rw[ha];rfl
 have has:iQ x=[]:=by unfold iQ;rw[hs];rfl
 obtain⟨T,hT⟩:∃T:Nat->List (List D),T=fun i=>(kg x++(x.aF.map lT).take i).map ah.enc:=⟨_,rfl⟩
 have hT0:T 0=[[.s tO,.sl []],[.s x.bg,.sl []],[.s [],.sl ((aR x.aK).map ah.enc)],[.s (dK x.bA).aU,.sl ((dK x.bA).aj.map ah.enc)],[.s [],.sl ((x.bR.map oh).map ah.enc)],[.s [],.sl ((aR [lG]).map ah.enc)],[.s [],.sl []]]:=by
  rw[hT];simp only[List.take_zero,List.append_nil,kg,hfl,has,List.map_cons,List.map_nil,gq,sN,ah.aB (dK x.bA),ah.aB (dK x.bC)]
 have lF:∀i,(T i).length<=i+7:=fun i=>by
  rw[hT];simp only[List.length_map,List.length_append];have:=List.length_take_le i (x.aF.map lT);simp[kg];omega
 have hTs:∀i (hi:i<x.aF.length),T i++[[.s [],.sl [[.s x.aF[i].fName,.sl []],[.s [],.sl ((aR x.aF[i].aK).map ah.enc)],[.s (dX x.aF[i].fBody).aU,.sl ((dX x.aF[i].fBody).aj.map ah.enc)]]]]=T (i+1):=fun i hi=>by
  have:=lQ (base:=kg x) (l:=x.aF.map lT) (i:=i) (by rw[List.length_map];exact hi);rw[List.getElem_map,lT,d9,dP] at this;simp only[List.map_cons,List.map_nil,gq,sN,ah.aB (dX x.aF[i].fBody)] at this;rw[hT];exact this
 have hTr:∀i,∀r∈T i,r.length=2:=fun i=>by rw[hT];exact gW
 have hTe:T x.aF.length=(qg x).aj.map ah.enc:=by
  rw[hT];simp only
  rw[List.take_of_length_le (by simp)];rfl
 clear hT;refine zcx [.cell 2 39] func26 ntmps26 ?_;simp -implicitDefEqProofs (disch:=omega) only[go_sem];refine aA (mh x (by omega)) ?_;simp -implicitDefEqProofs (disch:=omega) only[go_sem,hv,ha,hs]
 (repeat(with_reducible refine And.intro ?_ ?_;focus first|omega|rfl|assumption|exact⟨_,rfl,rfl⟩|(simp;omega)|(simp;done)))
 refine aA (bO _) ?_;simp -implicitDefEqProofs (disch:=omega) only[go_sem];refine aA (bO _) ?_;simp -implicitDefEqProofs (disch:=omega) only[go_sem];refine aA (gD x.aK (by omega)) ?_;simp -implicitDefEqProofs (disch:=omega) only[go_sem];refine aA (qx x.bA (by omega)) ?_;simp -implicitDefEqProofs (disch:=omega) only[go_sem];refine aA (wD x.bR (by omega) (fun b hb=>by have:=rF hb;omega)) ?_;simp -implicitDefEqProofs (disch:=omega) only[go_sem];refine aA (gD [lG] (by simp)) ?_;simp -implicitDefEqProofs (disch:=omega) only[go_sem];have hE:=fun bD Ω=>wB (T 0) (hTr 0) (by have:=lF 0;omega) bD Ω;simp only[hT0] at hE;refine cZ [false] rfl (hE _ _) ?_;simp -implicitDefEqProofs (disch:=omega) only[go_sem]
 refine bF (ι:=Nat) zmx rfl [1,2,5,6] (fun i=>[.c (.ptr (0,0) 0),.c (.ptr (0,1) 0),.c (.ptr (0,6) 0),.c (.d (.i .i64 i))])
  (fun i=>[.box [.d (.s x.bg),.d (.sl (x.aK.map encS)),.d (.i .i64 x.bA.aI),.d (.s x.bA.fName),.d (.sl (x.bA.fArgs.map au.enc)),.d (.sl (x.bR.map aM.enc)),.d (.b true),.d (.b false),.d (.i .i64 x.bC.aI),.d (.s x.bC.fName),.d (.sl (x.bC.fArgs.map au.enc)),.d (.sl (x.aF.map aN.enc))],.box [.d (.s []),.bE []],.tok 1 [[.s lG]],.box [.d (.s []),.bE []],.box [.d (.s []),.bK (0,5) (T 0)],.tok 2 (T i),.box [.d (.s []),.bK (0,5) (T i)]]::S)
  (fun i=>i<=x.aF.length) (fun i=>x.aF.length-i) 0 rfl (by simp only[hT0]<;>(try rfl)) (Nat.zero_le _) ?_
 intro i hi;have hl:=lF i;simp -implicitDefEqProofs (disch:=omega) only[go_sem]
 with_reducible refine aD (fun hb=> ?_) (fun hb=> ?_)<;>have h:=hb<;>(try simp only[wf_preprocess] at h)<;>simp -implicitDefEqProofs (disch:=omega) only[go_sem,hb]<;>(repeat(with_reducible refine And.intro ?_ ?_;focus first|omega|rfl|assumption|exact⟨_,rfl,rfl⟩|(simp;omega)|(simp;done)))
 ·have hi':i<x.aF.length:=by omega
  have hm:=List.getElem_mem hi';have hcz:=w9 hm;have hce:=aN.sum x.aF[i];rw[gL] at hce;have hst:=hTs i hi'
  (repeat(with_reducible refine And.intro ?_ ?_;focus first|omega|rfl|assumption|exact⟨_,rfl,rfl⟩|(simp;omega)|(simp;done)))
  refine aA (bO _) ?_;simp -implicitDefEqProofs (disch:=omega) only[go_sem];refine aA (gD x.aF[i].aK (by omega)) ?_;simp -implicitDefEqProofs (disch:=omega) only[go_sem];refine aA (Bf x.aF[i].fBody (KP _ hm) (by omega)) ?_;simp -implicitDefEqProofs (disch:=omega) only[go_sem];refine aA (nN _ (by simp) (by simp)) ?_;simp -implicitDefEqProofs (disch:=omega) only[go_sem]
  (repeat(with_reducible refine And.intro ?_ ?_;focus first|omega|rfl|assumption|exact⟨_,rfl,rfl⟩|(simp;omega)|(simp;done)))
  rw[hst];exact dO 7 (by decide) (i+1) (by omega) rfl rfl rfl rfl (by omega)
 ·have hi':i=x.aF.length:=by omega
  subst hi';rw[hTe];refine aA (Bd true (qg x) (by omega)) ?_;simp -implicitDefEqProofs (disch:=omega) only[go_sem];rfl
theorem ac8(x:aH)(hv:eO x=true)(hsz:x.sz<=1048576)(ha:x.fq=false)(hs:x.dn=true):aJ prog 26 [x.v] (Bc (qg x)).v:=fun S=>by
 have hdz:=aH.sum x;rw[gL] at hdz;obtain⟨hf1,hf2,hf3,KP⟩:=lH hv;have hz:=CF hv
 have hfl:iP x=[]:=by unfold iP;rw[ha];rfl
 have has:iQ x=[dK x.bC]:=by unfold iQ;rw[hs];rfl
 obtain⟨T,hT⟩:∃T:Nat->List (List D),T=fun i=>(kg x++(x.aF.map lT).take i).map ah.enc:=⟨_,rfl⟩
 have hT0:T 0=[[.s tO,.sl []],[.s x.bg,.sl []],[.s [],.sl ((aR x.aK).map ah.enc)],[.s (dK x.bA).aU,.sl ((dK x.bA).aj.map ah.enc)],[.s [],.sl ((x.bR.map oh).map ah.enc)],[.s [],.sl ((aR []).map ah.enc)],[.s [],.sl [[.s (dK x.bC).aU,.sl ((dK x.bC).aj.map ah.enc)]]]]:=by
  rw[hT];simp only[List.take_zero,List.append_nil,kg,hfl,has,List.map_cons,List.map_nil,gq,sN,ah.aB (dK x.bA),ah.aB (dK x.bC)]
 have lF:∀i,(T i).length<=i+7:=fun i=>by
  rw[hT];simp only[List.length_map,List.length_append];have:=List.length_take_le i (x.aF.map lT);simp[kg];omega
 have hTs:∀i (hi:i<x.aF.length),T i++[[.s [],.sl [[.s x.aF[i].fName,.sl []],[.s [],.sl ((aR x.aF[i].aK).map ah.enc)],[.s (dX x.aF[i].fBody).aU,.sl ((dX x.aF[i].fBody).aj.map ah.enc)]]]]=T (i+1):=fun i hi=>by
  have:=lQ (base:=kg x) (l:=x.aF.map lT) (i:=i) (by rw[List.length_map];exact hi);rw[List.getElem_map,lT,d9,dP] at this;simp only[List.map_cons,List.map_nil,gq,sN,ah.aB (dX x.aF[i].fBody)] at this;rw[hT];exact this
 have hTr:∀i,∀r∈T i,r.length=2:=fun i=>by rw[hT];exact gW
 have hTe:T x.aF.length=(qg x).aj.map ah.enc:=by
  rw[hT];simp only
  rw[List.take_of_length_le (by simp)];rfl
 clear hT;refine zcx [.cell 2 39] func26 ntmps26 ?_;simp -implicitDefEqProofs (disch:=omega) only[go_sem];refine aA (mh x (by omega)) ?_;simp -implicitDefEqProofs (disch:=omega) only[go_sem,hv,ha,hs]
 (repeat(with_reducible refine And.intro ?_ ?_;focus first|omega|rfl|assumption|exact⟨_,rfl,rfl⟩|(simp;omega)|(simp;done)))
 refine aA (qx x.bC (by omega)) ?_;simp -implicitDefEqProofs (disch:=omega) only[go_sem]
 (repeat(with_reducible refine And.intro ?_ ?_;focus first|omega|rfl|assumption|exact⟨_,rfl,rfl⟩|(simp;omega)|(simp;done)))
 refine aA (nN _ (by simp) (by simp)) ?_;simp -implicitDefEqProofs (disch:=omega) only[go_sem]
 (repeat(with_reducible refine And.intro ?_ ?_;focus first|omega|rfl|assumption|exact⟨_,rfl,rfl⟩|(simp;omega)|(simp;done)))
 refine aA (bO _) ?_;simp -implicitDefEqProofs (disch:=omega) only[go_sem];refine aA (bO _) ?_;simp -implicitDefEqProofs (disch:=omega) only[go_sem];refine aA (gD x.aK (by omega)) ?_;simp -implicitDefEqProofs (disch:=omega) only[go_sem];refine aA (qx x.bA (by omega)) ?_;simp -implicitDefEqProofs (disch:=omega) only[go_sem];refine aA (wD x.bR (by omega) (fun b hb=>by have:=rF hb;omega)) ?_;simp -implicitDefEqProofs (disch:=omega) only[go_sem];refine aA (gD [] (by simp)) ?_;simp -implicitDefEqProofs (disch:=omega) only[go_sem];have hE:=fun bD Ω=>wB (T 0) (hTr 0) (by have:=lF 0;omega) bD Ω;simp only[hT0] at hE;refine cZ [false] rfl (hE _ _) ?_;simp -implicitDefEqProofs (disch:=omega) only[go_sem]
 refine bF (ι:=Nat) zmx rfl [1,2,5,6] (fun i=>[.c (.ptr (0,0) 0),.c (.ptr (0,1) 0),.c (.ptr (0,5) 0),.c (.d (.i .i64 i))])
  (fun i=>[.box [.d (.s x.bg),.d (.sl (x.aK.map encS)),.d (.i .i64 x.bA.aI),.d (.s x.bA.fName),.d (.sl (x.bA.fArgs.map au.enc)),.d (.sl (x.bR.map aM.enc)),.d (.b false),.d (.b true),.d (.i .i64 x.bC.aI),.d (.s x.bC.fName),.d (.sl (x.bC.fArgs.map au.enc)),.d (.sl (x.aF.map aN.enc))],.box [.d (.s []),.bE []],.box [.d (.s []),.d (.sl [[.s (dK x.bC).aU,.sl ((dK x.bC).aj.map ah.enc)]])],.box [.d (.s []),.bK (0,4) (T 0)],.tok 2 (T i),.box [.d (.s []),.bK (0,4) (T i)]]::S)
  (fun i=>i<=x.aF.length) (fun i=>x.aF.length-i) 0 rfl (by simp only[hT0]<;>(try rfl)) (Nat.zero_le _) ?_
 intro i hi;have hl:=lF i;simp -implicitDefEqProofs (disch:=omega) only[go_sem]
 with_reducible refine aD (fun hb=> ?_) (fun hb=> ?_)<;>have h:=hb<;>(try simp only[wf_preprocess] at h)<;>simp -implicitDefEqProofs (disch:=omega) only[go_sem,hb]<;>(repeat(with_reducible refine And.intro ?_ ?_;focus first|omega|rfl|assumption|exact⟨_,rfl,rfl⟩|(simp;omega)|(simp;done)))
 ·have hi':i<x.aF.length:=by omega
  have hm:=List.getElem_mem hi';have hcz:=w9 hm;have hce:=aN.sum x.aF[i];rw[gL] at hce;have hst:=hTs i hi'
  (repeat(with_reducible refine And.intro ?_ ?_;focus first|omega|rfl|assumption|exact⟨_,rfl,rfl⟩|(simp;omega)|(simp;done)))
  refine aA (bO _) ?_;simp -implicitDefEqProofs (disch:=omega) only[go_sem];refine aA (gD x.aF[i].aK (by omega)) ?_;simp -implicitDefEqProofs (disch:=omega) only[go_sem];refine aA (Bf x.aF[i].fBody (KP _ hm) (by omega)) ?_;simp -implicitDefEqProofs (disch:=omega) only[go_sem];refine aA (nN _ (by simp) (by simp)) ?_;simp -implicitDefEqProofs (disch:=omega) only[go_sem]
  (repeat(with_reducible refine And.intro ?_ ?_;focus first|omega|rfl|assumption|exact⟨_,rfl,rfl⟩|(simp;omega)|(simp;done)))
  rw[hst];exact dO 6 (by decide) (i+1) (by omega) rfl rfl rfl rfl (by omega)
 ·have hi':i=x.aF.length:=by omega
  subst hi';rw[hTe];refine aA (Bd true (qg x) (by omega)) ?_;simp -implicitDefEqProofs (disch:=omega) only[go_sem];rfl
theorem ac9(x:aH)(hv:eO x=true)(hsz:x.sz<=1048576)(ha:x.fq=false)(hs:x.dn=false):aJ prog 26 [x.v] (Bc (qg x)).v:=fun S=>by
 have hdz:=aH.sum x;rw[gL] at hdz;obtain⟨hf1,hf2,hf3,KP⟩:=lH hv;have hz:=CF hv
 have hfl:iP x=[]:=by unfold iP;rw[ha];rfl
 have has:iQ x=[]:=by unfold iQ;rw[hs];rfl
 obtain⟨T,hT⟩:∃T:Nat->List (List D),T=fun i=>(kg x++(x.aF.map lT).take i).map ah.enc:=⟨_,rfl⟩
 have hT0:T 0=[[.s tO,.sl []],[.s x.bg,.sl []],[.s [],.sl ((aR x.aK).map ah.enc)],[.s (dK x.bA).aU,.sl ((dK x.bA).aj.map ah.enc)],[.s [],.sl ((x.bR.map oh).map ah.enc)],[.s [],.sl ((aR []).map ah.enc)],[.s [],.sl []]]:=by
  rw[hT];simp only[List.take_zero,List.append_nil,kg,hfl,has,List.map_cons,List.map_nil,gq,sN,ah.aB (dK x.bA),ah.aB (dK x.bC)]
 have lF:∀i,(T i).length<=i+7:=fun i=>by
  rw[hT];simp only[List.length_map,List.length_append];have:=List.length_take_le i (x.aF.map lT);simp[kg];omega
 have hTs:∀i (hi:i<x.aF.length),T i++[[.s [],.sl [[.s x.aF[i].fName,.sl []],[.s [],.sl ((aR x.aF[i].aK).map ah.enc)],[.s (dX x.aF[i].fBody).aU,.sl ((dX x.aF[i].fBody).aj.map ah.enc)]]]]=T (i+1):=fun i hi=>by
  have:=lQ (base:=kg x) (l:=x.aF.map lT) (i:=i) (by rw[List.length_map];exact hi);rw[List.getElem_map,lT,d9,dP] at this;simp only[List.map_cons,List.map_nil,gq,sN,ah.aB (dX x.aF[i].fBody)] at this;rw[hT];exact this
 have hTr:∀i,∀r∈T i,r.length=2:=fun i=>by rw[hT];exact gW
 have hTe:T x.aF.length=(qg x).aj.map ah.enc:=by
  rw[hT];simp only
  rw[List.take_of_length_le (by simp)];rfl
 clear hT;refine zcx [.cell 2 39] func26 ntmps26 ?_;simp -implicitDefEqProofs (disch:=omega) only[go_sem];refine aA (mh x (by omega)) ?_;simp -implicitDefEqProofs (disch:=omega) only[go_sem,hv,ha,hs]
 (repeat(with_reducible refine And.intro ?_ ?_;focus first|omega|rfl|assumption|exact⟨_,rfl,rfl⟩|(simp;omega)|(simp;done)))
 refine aA (bO _) ?_;simp -implicitDefEqProofs (disch:=omega) only[go_sem];refine aA (bO _) ?_;simp -implicitDefEqProofs (disch:=omega) only[go_sem];refine aA (gD x.aK (by omega)) ?_;simp -implicitDefEqProofs (disch:=omega) only[go_sem];refine aA (qx x.bA (by omega)) ?_;simp -implicitDefEqProofs (disch:=omega) only[go_sem];refine aA (wD x.bR (by omega) (fun b hb=>by have:=rF hb;omega)) ?_;simp -implicitDefEqProofs (disch:=omega) only[go_sem];refine aA (gD [] (by simp)) ?_;simp -implicitDefEqProofs (disch:=omega) only[go_sem];have hE:=fun bD Ω=>wB (T 0) (hTr 0) (by have:=lF 0;omega) bD Ω;simp only[hT0] at hE;refine cZ [false] rfl (hE _ _) ?_;simp -implicitDefEqProofs (disch:=omega) only[go_sem]
 refine bF (ι:=Nat) zmx rfl [1,2,5,6] (fun i=>[.c (.ptr (0,0) 0),.c (.ptr (0,1) 0),.c (.ptr (0,5) 0),.c (.d (.i .i64 i))])
  (fun i=>[.box [.d (.s x.bg),.d (.sl (x.aK.map encS)),.d (.i .i64 x.bA.aI),.d (.s x.bA.fName),.d (.sl (x.bA.fArgs.map au.enc)),.d (.sl (x.bR.map aM.enc)),.d (.b false),.d (.b false),.d (.i .i64 x.bC.aI),.d (.s x.bC.fName),.d (.sl (x.bC.fArgs.map au.enc)),.d (.sl (x.aF.map aN.enc))],.box [.d (.s []),.bE []],.box [.d (.s []),.bE []],.box [.d (.s []),.bK (0,4) (T 0)],.tok 2 (T i),.box [.d (.s []),.bK (0,4) (T i)]]::S)
  (fun i=>i<=x.aF.length) (fun i=>x.aF.length-i) 0 rfl (by simp only[hT0]<;>(try rfl)) (Nat.zero_le _) ?_
 intro i hi;have hl:=lF i;simp -implicitDefEqProofs (disch:=omega) only[go_sem]
 with_reducible refine aD (fun hb=> ?_) (fun hb=> ?_)<;>have h:=hb<;>(try simp only[wf_preprocess] at h)<;>simp -implicitDefEqProofs (disch:=omega) only[go_sem,hb]<;>(repeat(with_reducible refine And.intro ?_ ?_;focus first|omega|rfl|assumption|exact⟨_,rfl,rfl⟩|(simp;omega)|(simp;done)))
 ·have hi':i<x.aF.length:=by omega
  have hm:=List.getElem_mem hi';have hcz:=w9 hm;have hce:=aN.sum x.aF[i];rw[gL] at hce;have hst:=hTs i hi'
  (repeat(with_reducible refine And.intro ?_ ?_;focus first|omega|rfl|assumption|exact⟨_,rfl,rfl⟩|(simp;omega)|(simp;done)))
  refine aA (bO _) ?_;simp -implicitDefEqProofs (disch:=omega) only[go_sem];refine aA (gD x.aF[i].aK (by omega)) ?_;simp -implicitDefEqProofs (disch:=omega) only[go_sem];refine aA (Bf x.aF[i].fBody (KP _ hm) (by omega)) ?_;simp -implicitDefEqProofs (disch:=omega) only[go_sem];refine aA (nN _ (by simp) (by simp)) ?_;simp -implicitDefEqProofs (disch:=omega) only[go_sem]
  (repeat(with_reducible refine And.intro ?_ ?_;focus first|omega|rfl|assumption|exact⟨_,rfl,rfl⟩|(simp;omega)|(simp;done)))
  rw[hst];exact dO 6 (by decide) (i+1) (by omega) rfl rfl rfl rfl (by omega)
 ·have hi':i=x.aF.length:=by omega
  subst hi';rw[hTe];refine aA (Bd true (qg x) (by omega)) ?_;simp -implicitDefEqProofs (disch:=omega) only[go_sem];rfl
theorem DU(x:aH)(hsz:x.sz<=1048576):aJ prog 26 [x.v] (kI x).v:=by
 unfold kI
 cases hv:eO x with
 |false=>
  rw[wm];refine aJ.less (fun S=> ?_) (LW [] []);refine zcx [.cell 2 39] func26 ntmps26 ?_;simp -implicitDefEqProofs (disch:=omega) only[go_sem];refine aA (mh x (by omega)) ?_;simp -implicitDefEqProofs (disch:=omega) only[go_sem,hv]
 |true=>
  rw[wm]
  cases ha:x.fq with
  |true=>
   cases hs:x.dn with
   |true=>exact ac6 x hv hsz ha hs
   |false=>exact ac7 x hv hsz ha hs
  |false=>
   cases hs:x.dn with
   |true=>exact ac8 x hv hsz ha hs
   |false=>exact ac9 x hv hsz ha hs
end Go.Ab