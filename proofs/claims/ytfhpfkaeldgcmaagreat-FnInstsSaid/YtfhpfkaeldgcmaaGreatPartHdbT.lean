/-
  SEVERAL TEXTS IN ONE (merged by program): contracts and models, each with its own heading.
-/
import Derived.Test.YtfhpfkaeldgcmaaGreatPartHdbS
open Go.Proofs Go.Proofs.Tryz
set_option linter.unusedSimpArgs false
set_option linter.unusedVariables false
set_option maxRecDepth 4000
namespace Go.Ab
noncomputable def qb(t:bG):List (List UInt8):=t.aS.map aK.fName
noncomputable def G8(t:bG):Prop:=t.nH=true/\(t.bV=true\/0<t.aS.length\/0<t.dJ.length)
noncomputable def fP(t:bG):Bool:=
 validName t.fName&&(dec (t.dJ.length<=4)&&(iP t.dJ&&(dec (t.aS.length<=6)&&(!dec (G8 t)&&(t.aS.all jS&&dec (qb t).Nodup)))))
theorem bG.sum(x:bG):x.fName.length+(x.dJ.length+aI (x.dJ.map encS))+(x.aS.length+aI (x.aS.map aK.enc))<=x.sz:=by
 simp only[bG.sz,bG.aj,bF,bL,D.sz,List.length_map];omega
theorem G9{xs:List aK}{t:aK}(h:t∈xs):t.sz<=aI (xs.map aK.enc):=dV (List.mem_map_of_mem h)
theorem Xg{g:aK}(h:jS g=true):validName g.fName=true:=by
 unfold jS at h;rw[Bool.and_eq_true] at h;exact h.1
theorem Tn{t:bG}(h:t.aS.all jS=true):(qb t).all validName=true:=by
 unfold qb;rw[List.all_map];refine List.all_eq_true.2 fun g hg=>Xg (List.all_eq_true.1 h g hg)
theorem nC(t:bG)(hsz:t.sz<=4194304):bq prog 123 [t.v] (.c (.d (.b (fP t)))):=fun S=>by
 have hs:=bG.sum t
 have hV:∀s∈t.dJ,s.length<=4194304:=fun s h=>by have:=yI h;omega
 have hG:∀g∈t.aS,g.sz<=4194304:=fun g h=>by have:=G9 h;omega
 have bad:∀i,∀hi:i<t.aS.length,jS t.aS[i]=false->fP t=false:=fun i hi h=>by
  have:t.aS.all jS=false:=Bool.eq_false_iff.2 fun hx=>by
   rw[List.all_eq_true.1 hx _ (List.getElem_mem hi)] at h;cases h
  unfold fP
  rw[this];simp
 have alK:G8 t->V.c (.d (.b false))=V.c (.d (.b (fP t))):=fun h=>bO (by unfold fP;rw[dQ h];simp);refine zcx [.tmp 2] func123 ntmps123 ?_;simp -implicitDefEqProofs (disch:=omega) only[go_sem]
 (repeat(with_reducible refine And.intro ?_ ?_;focus first|omega|rfl|assumption|exact⟨_,rfl,rfl⟩|(simp;omega)|(simp;done)))
 refine lq 3 1 [] rfl (by simp) ?_
 refine bT (ι:=Nat×List (List UInt8)) zmx rfl [1,3,4] (fun y=>[.c (.ptr (0,0) 0),.c (.bX (0,1) (y.2.map encS)),.c (.d (.i .i64 y.1))]) (fun y=>[.box (t.enc.map .d),.tok 1 (y.2.map encS)]::S)
  (fun y=>y.1<=t.aS.length/\y.2=(qb t).take y.1/\∀j,∀hj:j<t.aS.length,j<y.1->jS t.aS[j]=true) (fun y=>t.aS.length-y.1) (0,[]) rfl ?_ ⟨Nat.zero_le _,rfl,fun j _ h=>by simp only at h;omega⟩ ?_
 ·simp -implicitDefEqProofs (disch:=omega) only[go_sem]
 rintro⟨i,names⟩ ⟨p1,p2,p3⟩;simp only at p1 p2 p3
 have pl:names.length<=t.aS.length:=by rw[p2];simp[qb];omega
 simp -implicitDefEqProofs (disch:=omega) only[go_sem]
 with_reducible refine aD (fun hb=> ?_) (fun hb=> ?_)<;>have h:=hb<;>(try simp only[wf_preprocess] at h)<;>simp -implicitDefEqProofs (disch:=omega) only[go_sem,hb]<;>(repeat(with_reducible refine And.intro ?_ ?_;focus first|omega|rfl|assumption|exact⟨_,rfl,rfl⟩|(simp;omega)|(simp;done)))
 ·have hi:i<t.aS.length:=by omega
  (repeat(with_reducible refine And.intro ?_ ?_;focus first|omega|rfl|assumption|exact⟨_,rfl,rfl⟩|(simp;omega)|(simp;done)))
  refine aB (Z7 t.aS[i] (hG _ (List.getElem_mem hi))) ?_;simp -implicitDefEqProofs (disch:=omega) only[go_sem]<;>(repeat(with_reducible refine And.intro ?_ ?_;focus first|omega|rfl|assumption|exact⟨_,rfl,rfl⟩|(simp;omega)|(simp;done)))
  with_reducible refine aD (fun hb=> ?_) (fun hb=> ?_)<;>have h:=hb<;>(try simp only[wf_preprocess] at h)<;>simp -implicitDefEqProofs (disch:=omega) only[go_sem,hb]<;>(repeat(with_reducible refine And.intro ?_ ?_;focus first|omega|rfl|assumption|exact⟨_,rfl,rfl⟩|(simp;omega)|(simp;done)))
  ·rw[bad i hi h]
  have k2:=h
  (repeat(with_reducible refine And.intro ?_ ?_;focus first|omega|rfl|assumption|exact⟨_,rfl,rfl⟩|(simp;omega)|(simp;done)))
  rw[show List.map encS names++[[D.s t.aS[i].fName]]=List.map encS (names++[t.aS[i].fName]) by simp[encS]]
  exact dG (i+1,names++[t.aS[i].fName]) (by simp only;omega) rfl rfl ⟨by simp only;omega,by simp only;rw[p2,nP (by simpa [qb] using hi)];simp[qb],fun j hj hji=>by
   simp only at hji;by_cases e:j=i
   ·subst e;exact k2
   ·exact p3 j hj (by omega)⟩
 have hi:i=t.aS.length:=by omega
 have hn:names=qb t:=by rw[p2,List.take_of_length_le (by simp[qb];omega)]
 have hall:t.aS.all jS=true:=List.all_eq_true.2 fun c hc=>by
  obtain⟨j,hj,e⟩:=List.getElem_of_mem hc;rw[<-e];exact p3 j hj (by omega)
 have JQ:=Tn hall
 have hnl:∀s∈names,s.length<=4194304:=fun s hm=>by
  rw[hn] at hm;obtain⟨g,hg,e⟩:=List.mem_map.1 hm;have:=hG g hg;have:=aK.sum g;rw[<-e];omega
 have hlen:names.length=t.aS.length:=by rw[hn];simp[qb]
 clear bad p2 p3
 repeat' (first|with_reducible refine aD (fun hb=> ?_) (fun hb=> ?_)<;>have h:=hb<;>(try simp only[wf_preprocess] at h)<;>simp -implicitDefEqProofs (disch:=omega) only[go_sem,hb]<;>(repeat(with_reducible refine And.intro ?_ ?_;focus first|omega|rfl|assumption|exact⟨_,rfl,rfl⟩|(simp;omega)|(simp;done))))
 all_goals first
  |(refine alK ⟨by assumption,?_⟩;first|exact .inl (by assumption)|exact .inr (.inl (by omega))|exact .inr (.inr (by omega)))
  |skip
 all_goals
  have na:¬G8 t:=fun x=>by
   obtain⟨x1,x2⟩:=x
   rcases x2 with x2|x2|x2<;>first|omega|simp_all
  (repeat(with_reducible refine And.intro ?_ ?_;focus first|omega|rfl|assumption|exact⟨_,rfl,rfl⟩|(simp;omega)|(simp;done)))
  refine aB (gM t.fName (by omega)) ?_;simp -implicitDefEqProofs (disch:=omega) only[go_sem]
  with_reducible refine aD (fun hb=> ?_) (fun hb=> ?_)<;>have h:=hb<;>(try simp only[wf_preprocess] at h)<;>simp -implicitDefEqProofs (disch:=omega) only[go_sem,hb]<;>(repeat(with_reducible refine And.intro ?_ ?_;focus first|omega|rfl|assumption|exact⟨_,rfl,rfl⟩|(simp;omega)|(simp;done)))
  ·have h1:=h
   (repeat(with_reducible refine And.intro ?_ ?_;focus first|omega|rfl|assumption|exact⟨_,rfl,rfl⟩|(simp;omega)|(simp;done)))
   refine aB (j6 t.dJ 4 (by omega) hV) ?_;simp -implicitDefEqProofs (disch:=omega) only[go_sem]<;>(repeat(with_reducible refine And.intro ?_ ?_;focus first|omega|rfl|assumption|exact⟨_,rfl,rfl⟩|(simp;omega)|(simp;done)))
   with_reducible refine aD (fun hb=> ?_) (fun hb=> ?_)<;>have h:=hb<;>(try simp only[wf_preprocess] at h)<;>simp -implicitDefEqProofs (disch:=omega) only[go_sem,hb]<;>(repeat(with_reducible refine And.intro ?_ ?_;focus first|omega|rfl|assumption|exact⟨_,rfl,rfl⟩|(simp;omega)|(simp;done)))
   ·have h2:=h;rw[Bool.and_eq_true] at h2;have h3:=gL h2.1;refine aB (j6 names 6 (by omega) hnl) ?_;simp -implicitDefEqProofs (disch:=omega) only[go_sem]<;>(repeat(with_reducible refine And.intro ?_ ?_;focus first|omega|rfl|assumption|exact⟨_,rfl,rfl⟩|(simp;omega)|(simp;done)));refine bO ?_;unfold fP;rw[h1,h2.2,hall,bK na,dQ (show t.dJ.length<=4 by omega),hlen];unfold iP;rw[hn,JQ,Bool.and_true];simp only[Bool.true_and,Bool.not_false];congr 1;exact kP ⟨fun h=>by omega,fun h=>by omega⟩
   ·refine bO ?_;unfold fP
    have h2:(dec (t.dJ.length<=4)&&iP t.dJ)=false:=by
     rw[<-h];congr 1;exact kP ⟨fun h=>by omega,fun h=>by omega⟩
    rw[<-Bool.and_assoc (dec (t.dJ.length<=4)),h2];simp
  ·exact bO (by unfold fP;rw[h];rfl)
def wJ:List UInt8:=[97,117,116,111]
def qD:List UInt8:=[116,114,97,105,116]
def mO(t:bG):List (List UInt8):=(if t.nH=true then [wJ] else [])++(if t.bV=true then [iX] else [])
def sN(g:aK):au:=d9 ([bN g.fName,d9 (g.bS.map dR),dR g.dB]++if g.iy=true then [d9 (dh g.aO),fO g.fBody] else [])
def oq(t:bG):List au:=[bN qD,bN t.fName,d9 (dh t.dJ),d9 (dh (mO t))]
def vg(t:bG):au:=d9 (oq t++t.aS.map sN)
noncomputable def KV(x:bG):au:=tJ (fP x) (vg x)
theorem adn{x:bG}(h:x.sz<=1048576):(KV x).sz<=1048576:=Nat.le_trans (G5 _ _) (by decide)
theorem He{g:aK}(h:g.iy=true):(sN g).aA=[bN g.fName,d9 (g.bS.map dR),dR g.dB,d9 (dh g.aO),fO g.fBody]:=by rw[sN,if_pos h];rfl
theorem Hf{g:aK}(h:g.iy=false):(sN g).aA=[bN g.fName,d9 (g.bS.map dR),dR g.dB]:=by rw[sN,if_neg (by rw[h];decide)];rfl
theorem Jg(g:aK):(sN g).bC=[]:=rfl
theorem uL{g:aK}(h:jS g=true):jZ g.bS=true/\formed g.dB=true/\(g.iy=true->iW g.fBody=true):=by
 unfold jS at h;simp only[Bool.and_eq_true] at h;obtain⟨_,_,h1,h2,h3⟩:=h;refine⟨u6 h1,sM h2,fun hd=> ?_⟩;rw[if_pos hd,Bool.and_eq_true] at h3;exact BF h3.2
theorem ahV(g:aK)(hok:jS g=true):(sN g).sz<=48+32*g.sz:=by
 obtain⟨_,_,hb⟩:=uL hok;have h1:=Ky g.bS;have h2:=yJ g.dB;have h3:=aK.sum g;rw[dZ,xE] at h3;by_cases hd:g.iy=true
 ·have h4:=F3 g.fBody (hb hd);rw[sN,if_pos hd,iZ];simp[dI,iY,iZ,kS,o9];omega
 ·rw[sN,if_neg hd,iZ];simp[dI,iY,iZ,kS,o9];omega
theorem Ur:∀l:List aK,(∀g∈l,jS g=true)->dI (l.map sN)<=48*l.length+32*aI (l.map aK.enc)
 |[],_=>by simp[dI]
 |c::l,h=>by
  have h1:=ahV c (h c (List.mem_cons_self ..));have h2:=Ur l fun g hg=>h g (List.mem_cons_of_mem _ hg);rw[List.map_cons,dI,List.map_cons,aI,List.length_cons];simp only[aK.sz] at h1;omega
theorem lZ{t:bG}(h:fP t=true):(∀g∈t.aS,jS g=true)/\¬(t.nH=true/\t.bV=true):=by
 unfold fP at h;simp only[Bool.and_eq_true,Bool.not_eq_true'] at h;obtain⟨_,_,_,_,h1,h2,_⟩:=h;refine⟨fun g hg=>List.all_eq_true.1 h2 g hg,fun hh=> ?_⟩;rw[dQ (show G8 t from⟨hh.1,.inl hh.2⟩)] at h1;cases h1
theorem Z9(t:bG):(mO t).length<=2/\((mO t).map List.length).sum<=9:=by
 unfold mO;split<;>split<;>simp[wJ,iX]
theorem Ms{t:bG}(hok:fP t=true):(vg t).sz<=64+49*t.sz:=by
 have h1:=Ur t.aS (lZ hok).1;have h2:=Z9 t;have h3:=bG.sum t;rw[dZ] at h3;rw[vg,iZ,jP,List.length_append,List.length_map];simp[oq,dI,iY,iZ,kS,o9,qD];omega
theorem ado(t:bG)(hv:fP t=true)(hsz:t.sz<=1048576)(ha:t.nH=true)(hs:t.bV=false):bq prog 254 [t.v] (AA (vg t)).v:=fun S=>by
 have hdz:=bG.sum t;rw[dZ] at hdz;obtain⟨hso,_⟩:=lZ hv;have hz:=Ms hv
 have hfl:mO t=[wJ]:=by unfold mO;rw[ha,hs];rfl
 obtain⟨T,hT⟩:∃T:Nat->List (List D),T=fun i=>(oq t++(t.aS.map sN).take i).map au.enc:=⟨_,rfl⟩
 have hT0:T 0=[[.s qD,.sl []],[.s t.fName,.sl []],[.s [],.sl ((dh t.dJ).map au.enc)],[.s [],.sl ((dh [wJ]).map au.enc)]]:=by
  rw[hT];simp only[List.take_zero,List.append_nil,oq,hfl,List.map_cons,List.map_nil,eU,jf]
 have iE:∀i,(T i).length<=i+4:=fun i=>by
  rw[hT];simp only[List.length_map,List.length_append];have:=List.length_take_le i (t.aS.map sN);simp[oq];omega
 have hTs:∀i (hi:i<t.aS.length),T i++[[.s [],.sl ((sN t.aS[i]).aA.map au.enc)]]=T (i+1):=fun i hi=>by
  have:=iN (base:=oq t) (l:=t.aS.map sN) (i:=i) (by rw[List.length_map];exact hi);rw[List.getElem_map,Jg] at this;rw[hT];exact this
 have hTr:∀i,∀r∈T i,r.length=2:=fun i=>by rw[hT];exact je
 have hTe:T t.aS.length=(vg t).aA.map au.enc:=by
  rw[hT];simp only
  rw[List.take_of_length_le (by simp)];rfl
 clear hT;refine zcx [.cell 2 202] func254 ntmps254 ?_;simp -implicitDefEqProofs (disch:=omega) only[go_sem];refine aB (nC t (by omega)) ?_;simp -implicitDefEqProofs (disch:=omega) only[go_sem,hv,ha,hs]
 (repeat(with_reducible refine And.intro ?_ ?_;focus first|omega|rfl|assumption|exact⟨_,rfl,rfl⟩|(simp;omega)|(simp;done)))
 refine aB (bQ _) ?_;simp -implicitDefEqProofs (disch:=omega) only[go_sem];refine aB (bQ _) ?_;simp -implicitDefEqProofs (disch:=omega) only[go_sem];refine aB (dX t.dJ (by omega)) ?_;simp -implicitDefEqProofs (disch:=omega) only[go_sem];refine aB (dX [wJ] (by simp)) ?_;simp -implicitDefEqProofs (disch:=omega) only[go_sem];have hE:=fun cO Ω=>jM (T 0) (hTr 0) (by have:=iE 0;omega) cO Ω;simp only[hT0] at hE;refine cu [false] rfl (hE _ _) ?_;simp -implicitDefEqProofs (disch:=omega) only[go_sem]
 refine bT (ι:=Nat) zmx rfl [1,2,4,5] (fun i=>[.c (.ptr (0,0) 0),.c (.ptr (0,1) 0),.c (.ptr (0,5) 0),.c (.d (.i .i64 i))])
  (fun i=>[.box [.d (.s t.fName),.d (.sl (t.dJ.map encS)),.d (.b true),.d (.b false),.d (.sl (t.aS.map aK.enc))],.box [.d (.s []),.bI []],.tok 1 [[.s wJ]],.box [.d (.s []),.bX (0,4) (T 0)],.tok 2 (T i),.box [.d (.s []),.bX (0,4) (T i)]]::S)
  (fun i=>i<=t.aS.length) (fun i=>t.aS.length-i) 0 rfl (by simp only[hT0]<;>(try rfl)) (Nat.zero_le _) ?_
 intro i hi;have hl:=iE i;simp -implicitDefEqProofs (disch:=omega) only[go_sem]
 with_reducible refine aD (fun hb=> ?_) (fun hb=> ?_)<;>have h:=hb<;>(try simp only[wf_preprocess] at h)<;>simp -implicitDefEqProofs (disch:=omega) only[go_sem,hb]<;>(repeat(with_reducible refine And.intro ?_ ?_;focus first|omega|rfl|assumption|exact⟨_,rfl,rfl⟩|(simp;omega)|(simp;done)))
 ·have hi':i<t.aS.length:=by omega
  have hm:=List.getElem_mem hi';have hcz:=G9 hm;have hce:=aK.sum t.aS[i];rw[dZ] at hce;obtain⟨q1,q2,q3⟩:=uL (hso _ hm);have hst:=hTs i hi'
  (repeat(with_reducible refine And.intro ?_ ?_;focus first|omega|rfl|assumption|exact⟨_,rfl,rfl⟩|(simp;omega)|(simp;done)))
  refine aB (bQ _) ?_;simp -implicitDefEqProofs (disch:=omega) only[go_sem];refine aB (zD t.aS[i].bS (by omega) (fun u hu=>by have:=G7 hu;omega)) ?_;simp -implicitDefEqProofs (disch:=omega) only[go_sem];refine aB (jX t.aS[i].dB (by omega)) ?_;simp -implicitDefEqProofs (disch:=omega) only[go_sem];refine cu [false] rfl (jM _ (by simp) (by simp) _ _) ?_;simp -implicitDefEqProofs (disch:=omega) only[go_sem]
  with_reducible refine aD (fun hb=> ?_) (fun hb=> ?_)<;>have h:=hb<;>(try simp only[wf_preprocess] at h)<;>simp -implicitDefEqProofs (disch:=omega) only[go_sem,hb]<;>(repeat(with_reducible refine And.intro ?_ ?_;focus first|omega|rfl|assumption|exact⟨_,rfl,rfl⟩|(simp;omega)|(simp;done)))
  ·rw[He h] at hst;simp only[List.map_cons,List.map_nil,eU,jf,au.aj (dR t.aS[i].dB),au.aj (fO t.aS[i].fBody)] at hst;refine aB (dX t.aS[i].aO (by omega)) ?_;simp -implicitDefEqProofs (disch:=omega) only[go_sem];refine aB (qN t.aS[i].fBody (q3 h) (by omega)) ?_;simp -implicitDefEqProofs (disch:=omega) only[go_sem]
   (repeat(with_reducible refine And.intro ?_ ?_;focus first|omega|rfl|assumption|exact⟨_,rfl,rfl⟩|(simp;omega)|(simp;done)))
   rw[hst];exact fu 6 (by decide) (i+1) (by omega) rfl rfl rfl rfl (by omega)
  ·rw[Hf h] at hst;simp only[List.map_cons,List.map_nil,eU,jf,au.aj (dR t.aS[i].dB)] at hst
   (repeat(with_reducible refine And.intro ?_ ?_;focus first|omega|rfl|assumption|exact⟨_,rfl,rfl⟩|(simp;omega)|(simp;done)))
   rw[hst];exact fu 6 (by decide) (i+1) (by omega) rfl rfl rfl rfl (by omega)
 ·have hi':i=t.aS.length:=by omega
  subst hi';rw[hTe];refine aB (pE true (vg t) (by omega)) ?_;simp -implicitDefEqProofs (disch:=omega) only[go_sem];rfl
theorem adp(t:bG)(hv:fP t=true)(hsz:t.sz<=1048576)(ha:t.nH=false)(hs:t.bV=true):bq prog 254 [t.v] (AA (vg t)).v:=fun S=>by
 have hdz:=bG.sum t;rw[dZ] at hdz;obtain⟨hso,_⟩:=lZ hv;have hz:=Ms hv
 have hfl:mO t=[iX]:=by unfold mO;rw[ha,hs];rfl
 obtain⟨T,hT⟩:∃T:Nat->List (List D),T=fun i=>(oq t++(t.aS.map sN).take i).map au.enc:=⟨_,rfl⟩
 have hT0:T 0=[[.s qD,.sl []],[.s t.fName,.sl []],[.s [],.sl ((dh t.dJ).map au.enc)],[.s [],.sl ((dh [iX]).map au.enc)]]:=by
  rw[hT];simp only[List.take_zero,List.append_nil,oq,hfl,List.map_cons,List.map_nil,eU,jf]
 have iE:∀i,(T i).length<=i+4:=fun i=>by
  rw[hT];simp only[List.length_map,List.length_append];have:=List.length_take_le i (t.aS.map sN);simp[oq];omega
 have hTs:∀i (hi:i<t.aS.length),T i++[[.s [],.sl ((sN t.aS[i]).aA.map au.enc)]]=T (i+1):=fun i hi=>by
  have:=iN (base:=oq t) (l:=t.aS.map sN) (i:=i) (by rw[List.length_map];exact hi);rw[List.getElem_map,Jg] at this;rw[hT];exact this
 have hTr:∀i,∀r∈T i,r.length=2:=fun i=>by rw[hT];exact je
 have hTe:T t.aS.length=(vg t).aA.map au.enc:=by
  rw[hT];simp only
  rw[List.take_of_length_le (by simp)];rfl
 clear hT;refine zcx [.cell 2 202] func254 ntmps254 ?_;simp -implicitDefEqProofs (disch:=omega) only[go_sem];refine aB (nC t (by omega)) ?_;simp -implicitDefEqProofs (disch:=omega) only[go_sem,hv,ha,hs]
 (repeat(with_reducible refine And.intro ?_ ?_;focus first|omega|rfl|assumption|exact⟨_,rfl,rfl⟩|(simp;omega)|(simp;done)))
 refine aB (bQ _) ?_;simp -implicitDefEqProofs (disch:=omega) only[go_sem];refine aB (bQ _) ?_;simp -implicitDefEqProofs (disch:=omega) only[go_sem];refine aB (dX t.dJ (by omega)) ?_;simp -implicitDefEqProofs (disch:=omega) only[go_sem];refine aB (dX [iX] (by simp)) ?_;simp -implicitDefEqProofs (disch:=omega) only[go_sem];have hE:=fun cO Ω=>jM (T 0) (hTr 0) (by have:=iE 0;omega) cO Ω;simp only[hT0] at hE;refine cu [false] rfl (hE _ _) ?_;simp -implicitDefEqProofs (disch:=omega) only[go_sem]
 refine bT (ι:=Nat) zmx rfl [1,2,4,5] (fun i=>[.c (.ptr (0,0) 0),.c (.ptr (0,1) 0),.c (.ptr (0,5) 0),.c (.d (.i .i64 i))])
  (fun i=>[.box [.d (.s t.fName),.d (.sl (t.dJ.map encS)),.d (.b false),.d (.b true),.d (.sl (t.aS.map aK.enc))],.box [.d (.s []),.bI []],.tok 1 [[.s iX]],.box [.d (.s []),.bX (0,4) (T 0)],.tok 2 (T i),.box [.d (.s []),.bX (0,4) (T i)]]::S)
  (fun i=>i<=t.aS.length) (fun i=>t.aS.length-i) 0 rfl (by simp only[hT0]<;>(try rfl)) (Nat.zero_le _) ?_
 intro i hi;have hl:=iE i;simp -implicitDefEqProofs (disch:=omega) only[go_sem]
 with_reducible refine aD (fun hb=> ?_) (fun hb=> ?_)<;>have h:=hb<;>(try simp only[wf_preprocess] at h)<;>simp -implicitDefEqProofs (disch:=omega) only[go_sem,hb]<;>(repeat(with_reducible refine And.intro ?_ ?_;focus first|omega|rfl|assumption|exact⟨_,rfl,rfl⟩|(simp;omega)|(simp;done)))
 ·have hi':i<t.aS.length:=by omega
  have hm:=List.getElem_mem hi';have hcz:=G9 hm;have hce:=aK.sum t.aS[i];rw[dZ] at hce;obtain⟨q1,q2,q3⟩:=uL (hso _ hm);have hst:=hTs i hi'
  (repeat(with_reducible refine And.intro ?_ ?_;focus first|omega|rfl|assumption|exact⟨_,rfl,rfl⟩|(simp;omega)|(simp;done)))
  refine aB (bQ _) ?_;simp -implicitDefEqProofs (disch:=omega) only[go_sem];refine aB (zD t.aS[i].bS (by omega) (fun u hu=>by have:=G7 hu;omega)) ?_;simp -implicitDefEqProofs (disch:=omega) only[go_sem];refine aB (jX t.aS[i].dB (by omega)) ?_;simp -implicitDefEqProofs (disch:=omega) only[go_sem];refine cu [false] rfl (jM _ (by simp) (by simp) _ _) ?_;simp -implicitDefEqProofs (disch:=omega) only[go_sem]
  with_reducible refine aD (fun hb=> ?_) (fun hb=> ?_)<;>have h:=hb<;>(try simp only[wf_preprocess] at h)<;>simp -implicitDefEqProofs (disch:=omega) only[go_sem,hb]<;>(repeat(with_reducible refine And.intro ?_ ?_;focus first|omega|rfl|assumption|exact⟨_,rfl,rfl⟩|(simp;omega)|(simp;done)))
  ·rw[He h] at hst;simp only[List.map_cons,List.map_nil,eU,jf,au.aj (dR t.aS[i].dB),au.aj (fO t.aS[i].fBody)] at hst;refine aB (dX t.aS[i].aO (by omega)) ?_;simp -implicitDefEqProofs (disch:=omega) only[go_sem];refine aB (qN t.aS[i].fBody (q3 h) (by omega)) ?_;simp -implicitDefEqProofs (disch:=omega) only[go_sem]
   (repeat(with_reducible refine And.intro ?_ ?_;focus first|omega|rfl|assumption|exact⟨_,rfl,rfl⟩|(simp;omega)|(simp;done)))
   rw[hst];exact fu 6 (by decide) (i+1) (by omega) rfl rfl rfl rfl (by omega)
  ·rw[Hf h] at hst;simp only[List.map_cons,List.map_nil,eU,jf,au.aj (dR t.aS[i].dB)] at hst
   (repeat(with_reducible refine And.intro ?_ ?_;focus first|omega|rfl|assumption|exact⟨_,rfl,rfl⟩|(simp;omega)|(simp;done)))
   rw[hst];exact fu 6 (by decide) (i+1) (by omega) rfl rfl rfl rfl (by omega)
 ·have hi':i=t.aS.length:=by omega
  subst hi';rw[hTe];refine aB (pE true (vg t) (by omega)) ?_;simp -implicitDefEqProofs (disch:=omega) only[go_sem];rfl
theorem adq(t:bG)(hv:fP t=true)(hsz:t.sz<=1048576)(ha:t.nH=false)(hs:t.bV=false):bq prog 254 [t.v] (AA (vg t)).v:=fun S=>by
 have hdz:=bG.sum t;rw[dZ] at hdz;obtain⟨hso,_⟩:=lZ hv;have hz:=Ms hv
 have hfl:mO t=[]:=by unfold mO;rw[ha,hs];rfl
 obtain⟨T,hT⟩:∃T:Nat->List (List D),T=fun i=>(oq t++(t.aS.map sN).take i).map au.enc:=⟨_,rfl⟩
 have hT0:T 0=[[.s qD,.sl []],[.s t.fName,.sl []],[.s [],.sl ((dh t.dJ).map au.enc)],[.s [],.sl ((dh []).map au.enc)]]:=by
  rw[hT];simp only[List.take_zero,List.append_nil,oq,hfl,List.map_cons,List.map_nil,eU,jf]
 have iE:∀i,(T i).length<=i+4:=fun i=>by
  rw[hT];simp only[List.length_map,List.length_append];have:=List.length_take_le i (t.aS.map sN);simp[oq];omega
 have hTs:∀i (hi:i<t.aS.length),T i++[[.s [],.sl ((sN t.aS[i]).aA.map au.enc)]]=T (i+1):=fun i hi=>by
  have:=iN (base:=oq t) (l:=t.aS.map sN) (i:=i) (by rw[List.length_map];exact hi);rw[List.getElem_map,Jg] at this;rw[hT];exact this
 have hTr:∀i,∀r∈T i,r.length=2:=fun i=>by rw[hT];exact je
 have hTe:T t.aS.length=(vg t).aA.map au.enc:=by
  rw[hT];simp only
  rw[List.take_of_length_le (by simp)];rfl
 clear hT;refine zcx [.cell 2 202] func254 ntmps254 ?_;simp -implicitDefEqProofs (disch:=omega) only[go_sem];refine aB (nC t (by omega)) ?_;simp -implicitDefEqProofs (disch:=omega) only[go_sem,hv,ha,hs]
 (repeat(with_reducible refine And.intro ?_ ?_;focus first|omega|rfl|assumption|exact⟨_,rfl,rfl⟩|(simp;omega)|(simp;done)))
 refine aB (bQ _) ?_;simp -implicitDefEqProofs (disch:=omega) only[go_sem];refine aB (bQ _) ?_;simp -implicitDefEqProofs (disch:=omega) only[go_sem];refine aB (dX t.dJ (by omega)) ?_;simp -implicitDefEqProofs (disch:=omega) only[go_sem];refine aB (dX [] (by simp)) ?_;simp -implicitDefEqProofs (disch:=omega) only[go_sem];have hE:=fun cO Ω=>jM (T 0) (hTr 0) (by have:=iE 0;omega) cO Ω;simp only[hT0] at hE;refine cu [false] rfl (hE _ _) ?_;simp -implicitDefEqProofs (disch:=omega) only[go_sem]
 refine bT (ι:=Nat) zmx rfl [1,2,4,5] (fun i=>[.c (.ptr (0,0) 0),.c (.ptr (0,1) 0),.c (.ptr (0,4) 0),.c (.d (.i .i64 i))])
  (fun i=>[.box [.d (.s t.fName),.d (.sl (t.dJ.map encS)),.d (.b false),.d (.b false),.d (.sl (t.aS.map aK.enc))],.box [.d (.s []),.bI []],.box [.d (.s []),.bX (0,3) (T 0)],.tok 2 (T i),.box [.d (.s []),.bX (0,3) (T i)]]::S)
  (fun i=>i<=t.aS.length) (fun i=>t.aS.length-i) 0 rfl (by simp only[hT0]<;>(try rfl)) (Nat.zero_le _) ?_
 intro i hi;have hl:=iE i;simp -implicitDefEqProofs (disch:=omega) only[go_sem]
 with_reducible refine aD (fun hb=> ?_) (fun hb=> ?_)<;>have h:=hb<;>(try simp only[wf_preprocess] at h)<;>simp -implicitDefEqProofs (disch:=omega) only[go_sem,hb]<;>(repeat(with_reducible refine And.intro ?_ ?_;focus first|omega|rfl|assumption|exact⟨_,rfl,rfl⟩|(simp;omega)|(simp;done)))
 ·have hi':i<t.aS.length:=by omega
  have hm:=List.getElem_mem hi';have hcz:=G9 hm;have hce:=aK.sum t.aS[i];rw[dZ] at hce;obtain⟨q1,q2,q3⟩:=uL (hso _ hm);have hst:=hTs i hi'
  (repeat(with_reducible refine And.intro ?_ ?_;focus first|omega|rfl|assumption|exact⟨_,rfl,rfl⟩|(simp;omega)|(simp;done)))
  refine aB (bQ _) ?_;simp -implicitDefEqProofs (disch:=omega) only[go_sem];refine aB (zD t.aS[i].bS (by omega) (fun u hu=>by have:=G7 hu;omega)) ?_;simp -implicitDefEqProofs (disch:=omega) only[go_sem];refine aB (jX t.aS[i].dB (by omega)) ?_;simp -implicitDefEqProofs (disch:=omega) only[go_sem];refine cu [false] rfl (jM _ (by simp) (by simp) _ _) ?_;simp -implicitDefEqProofs (disch:=omega) only[go_sem]
  with_reducible refine aD (fun hb=> ?_) (fun hb=> ?_)<;>have h:=hb<;>(try simp only[wf_preprocess] at h)<;>simp -implicitDefEqProofs (disch:=omega) only[go_sem,hb]<;>(repeat(with_reducible refine And.intro ?_ ?_;focus first|omega|rfl|assumption|exact⟨_,rfl,rfl⟩|(simp;omega)|(simp;done)))
  ·rw[He h] at hst;simp only[List.map_cons,List.map_nil,eU,jf,au.aj (dR t.aS[i].dB),au.aj (fO t.aS[i].fBody)] at hst;refine aB (dX t.aS[i].aO (by omega)) ?_;simp -implicitDefEqProofs (disch:=omega) only[go_sem];refine aB (qN t.aS[i].fBody (q3 h) (by omega)) ?_;simp -implicitDefEqProofs (disch:=omega) only[go_sem]
   (repeat(with_reducible refine And.intro ?_ ?_;focus first|omega|rfl|assumption|exact⟨_,rfl,rfl⟩|(simp;omega)|(simp;done)))
   rw[hst];exact fu 5 (by decide) (i+1) (by omega) rfl rfl rfl rfl (by omega)
  ·rw[Hf h] at hst;simp only[List.map_cons,List.map_nil,eU,jf,au.aj (dR t.aS[i].dB)] at hst
   (repeat(with_reducible refine And.intro ?_ ?_;focus first|omega|rfl|assumption|exact⟨_,rfl,rfl⟩|(simp;omega)|(simp;done)))
   rw[hst];exact fu 5 (by decide) (i+1) (by omega) rfl rfl rfl rfl (by omega)
 ·have hi':i=t.aS.length:=by omega
  subst hi';rw[hTe];refine aB (pE true (vg t) (by omega)) ?_;simp -implicitDefEqProofs (disch:=omega) only[go_sem];rfl
theorem aac(t:bG)(hsz:t.sz<=1048576):bq prog 254 [t.v] (KV t).v:=by
 unfold KV
 cases hv:fP t with
 |false=>
  rw[tJ];refine bq.less (fun S=> ?_) (Da [] []);refine zcx [.cell 2 202] func254 ntmps254 ?_;simp -implicitDefEqProofs (disch:=omega) only[go_sem];refine aB (nC t (by omega)) ?_;simp -implicitDefEqProofs (disch:=omega) only[go_sem,hv]
 |true=>
  rw[tJ];have hb:=(lZ hv).2
  cases ha:t.nH with
  |true=>
   cases hs:t.bV with
   |true=>exact absurd ⟨ha,hs⟩ hb
   |false=>exact ado t hv hsz ha hs
  |false=>
   cases hs:t.bV with
   |true=>exact adp t hv hsz ha hs
   |false=>exact adq t hv hsz ha hs
end Go.Ab