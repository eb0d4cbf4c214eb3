/-
  SEVERAL TEXTS IN ONE (merged by program): contracts and models, each with its own heading.
-/
import Derived.Test.YtfhpfkaeldgcmaaGreatPartHebS
open Go.Proofs Go.Proofs.Tryz
set_option linter.unusedSimpArgs false
set_option linter.unusedVariables false
set_option maxRecDepth 4000
namespace Go.Ab
noncomputable def qx(t:bD):List (List UInt8):=t.aO.map aI.fName
noncomputable def IJ(t:bD):Prop:=t.nN=true/\(t.bX=true\/0<t.aO.length\/0<t.dG.length)
noncomputable def fQ(t:bD):Bool:=
 validName t.fName&&(dec (t.dG.length<=4)&&(iQ t.dG&&(dec (t.aO.length<=6)&&(!dec (IJ t)&&(t.aO.all jQ&&dec (qx t).Nodup)))))
theorem bD.sum(x:bD):x.fName.length+(x.dG.length+aQ (x.dG.map encS))+(x.aO.length+aQ (x.aO.map aI.enc))<=x.sz:=by
 simp only[bD.sz,bD.aj,bG,bC,D.sz,List.length_map];omega
theorem IK{xs:List aI}{t:aI}(h:t∈xs):t.sz<=aQ (xs.map aI.enc):=dO (List.mem_map_of_mem h)
theorem Ym{g:aI}(h:jQ g=true):validName g.fName=true:=by
 unfold jQ at h;rw[Bool.and_eq_true] at h;exact h.1
theorem Uy{t:bD}(h:t.aO.all jQ=true):(qx t).all validName=true:=by
 unfold qx;rw[List.all_map];refine List.all_eq_true.2 fun g hg=>Ym (List.all_eq_true.1 h g hg)
theorem nI(t:bD)(hsz:t.sz<=4194304):aX prog 123 [t.v] (.c (.d (.b (fQ t)))):=fun S=>by
 have hs:=bD.sum t
 have hV:∀s∈t.dG,s.length<=4194304:=fun s h=>by have:=zo h;omega
 have hG:∀g∈t.aO,g.sz<=4194304:=fun g h=>by have:=IK h;omega
 have bad:∀i,∀hi:i<t.aO.length,jQ t.aO[i]=false->fQ t=false:=fun i hi h=>by
  have:t.aO.all jQ=false:=Bool.eq_false_iff.2 fun hx=>by
   rw[List.all_eq_true.1 hx _ (List.getElem_mem hi)] at h;cases h
  unfold fQ
  rw[this];simp
 have amW:IJ t->V.c (.d (.b false))=V.c (.d (.b (fQ t))):=fun h=>bL (by unfold fQ;rw[dD h];simp);refine zcx [.tmp 2] func123 ntmps123 ?_;simp -implicitDefEqProofs (disch:=omega) only[go_sem]
 (repeat(with_reducible refine And.intro ?_ ?_;focus first|omega|rfl|assumption|exact⟨_,rfl,rfl⟩|(simp;omega)|(simp;done)))
 refine kN 3 1 [] rfl (by simp) ?_
 refine bN (ι:=Nat×List (List UInt8)) zmx rfl [1,3,4] (fun y=>[.c (.ptr (0,0) 0),.c (.bV (0,1) (y.2.map encS)),.c (.d (.i .i64 y.1))]) (fun y=>[.box (t.enc.map .d),.tok 1 (y.2.map encS)]::S)
  (fun y=>y.1<=t.aO.length/\y.2=(qx t).take y.1/\∀j,∀hj:j<t.aO.length,j<y.1->jQ t.aO[j]=true) (fun y=>t.aO.length-y.1) (0,[]) rfl ?_ ⟨Nat.zero_le _,rfl,fun j _ h=>by simp only at h;omega⟩ ?_
 ·simp -implicitDefEqProofs (disch:=omega) only[go_sem]
 rintro⟨i,names⟩ ⟨p1,p2,p3⟩;simp only at p1 p2 p3
 have pl:names.length<=t.aO.length:=by rw[p2];simp[qx];omega
 simp -implicitDefEqProofs (disch:=omega) only[go_sem]
 with_reducible refine aC (fun hb=> ?_) (fun hb=> ?_)<;>have h:=hb<;>(try simp only[wf_preprocess] at h)<;>simp -implicitDefEqProofs (disch:=omega) only[go_sem,hb]<;>(repeat(with_reducible refine And.intro ?_ ?_;focus first|omega|rfl|assumption|exact⟨_,rfl,rfl⟩|(simp;omega)|(simp;done)))
 ·have hi:i<t.aO.length:=by omega
  (repeat(with_reducible refine And.intro ?_ ?_;focus first|omega|rfl|assumption|exact⟨_,rfl,rfl⟩|(simp;omega)|(simp;done)))
  refine aB (aa7 t.aO[i] (hG _ (List.getElem_mem hi))) ?_;simp -implicitDefEqProofs (disch:=omega) only[go_sem]<;>(repeat(with_reducible refine And.intro ?_ ?_;focus first|omega|rfl|assumption|exact⟨_,rfl,rfl⟩|(simp;omega)|(simp;done)))
  with_reducible refine aC (fun hb=> ?_) (fun hb=> ?_)<;>have h:=hb<;>(try simp only[wf_preprocess] at h)<;>simp -implicitDefEqProofs (disch:=omega) only[go_sem,hb]<;>(repeat(with_reducible refine And.intro ?_ ?_;focus first|omega|rfl|assumption|exact⟨_,rfl,rfl⟩|(simp;omega)|(simp;done)))
  ·rw[bad i hi h]
  have k2:=h
  (repeat(with_reducible refine And.intro ?_ ?_;focus first|omega|rfl|assumption|exact⟨_,rfl,rfl⟩|(simp;omega)|(simp;done)))
  rw[show List.map encS names++[[D.s t.aO[i].fName]]=List.map encS (names++[t.aO[i].fName]) by simp[encS]]
  exact bT (i+1,names++[t.aO[i].fName]) (by simp only;omega) rfl rfl ⟨by simp only;omega,by simp only;rw[p2,nZ (by simpa [qx] using hi)];simp[qx],fun j hj hji=>by
   simp only at hji;by_cases e:j=i
   ·subst e;exact k2
   ·exact p3 j hj (by omega)⟩
 have hi:i=t.aO.length:=by omega
 have hn:names=qx t:=by rw[p2,List.take_of_length_le (by simp[qx];omega)]
 have hall:t.aO.all jQ=true:=List.all_eq_true.2 fun c hc=>by
  obtain⟨j,hj,e⟩:=List.getElem_of_mem hc;rw[<-e];exact p3 j hj (by omega)
 have F9:=Uy hall
 have hnl:∀s∈names,s.length<=4194304:=fun s hm=>by
  rw[hn] at hm;obtain⟨g,hg,e⟩:=List.mem_map.1 hm;have:=hG g hg;have:=aI.sum g;rw[<-e];omega
 have hlen:names.length=t.aO.length:=by rw[hn];simp[qx]
 clear bad p2 p3
 repeat' (first|with_reducible refine aC (fun hb=> ?_) (fun hb=> ?_)<;>have h:=hb<;>(try simp only[wf_preprocess] at h)<;>simp -implicitDefEqProofs (disch:=omega) only[go_sem,hb]<;>(repeat(with_reducible refine And.intro ?_ ?_;focus first|omega|rfl|assumption|exact⟨_,rfl,rfl⟩|(simp;omega)|(simp;done))))
 all_goals first
  |(refine amW ⟨by assumption,?_⟩;first|exact .inl (by assumption)|exact .inr (.inl (by omega))|exact .inr (.inr (by omega)))
  |skip
 all_goals
  have na:¬IJ t:=fun x=>by
   obtain⟨x1,x2⟩:=x
   rcases x2 with x2|x2|x2<;>first|omega|simp_all
  (repeat(with_reducible refine And.intro ?_ ?_;focus first|omega|rfl|assumption|exact⟨_,rfl,rfl⟩|(simp;omega)|(simp;done)))
  refine aB (gL t.fName (by omega)) ?_;simp -implicitDefEqProofs (disch:=omega) only[go_sem]
  with_reducible refine aC (fun hb=> ?_) (fun hb=> ?_)<;>have h:=hb<;>(try simp only[wf_preprocess] at h)<;>simp -implicitDefEqProofs (disch:=omega) only[go_sem,hb]<;>(repeat(with_reducible refine And.intro ?_ ?_;focus first|omega|rfl|assumption|exact⟨_,rfl,rfl⟩|(simp;omega)|(simp;done)))
  ·have h1:=h
   (repeat(with_reducible refine And.intro ?_ ?_;focus first|omega|rfl|assumption|exact⟨_,rfl,rfl⟩|(simp;omega)|(simp;done)))
   refine aB (kg t.dG 4 (by omega) hV) ?_;simp -implicitDefEqProofs (disch:=omega) only[go_sem]<;>(repeat(with_reducible refine And.intro ?_ ?_;focus first|omega|rfl|assumption|exact⟨_,rfl,rfl⟩|(simp;omega)|(simp;done)))
   with_reducible refine aC (fun hb=> ?_) (fun hb=> ?_)<;>have h:=hb<;>(try simp only[wf_preprocess] at h)<;>simp -implicitDefEqProofs (disch:=omega) only[go_sem,hb]<;>(repeat(with_reducible refine And.intro ?_ ?_;focus first|omega|rfl|assumption|exact⟨_,rfl,rfl⟩|(simp;omega)|(simp;done)))
   ·have h2:=h;rw[Bool.and_eq_true] at h2;have h3:=gD h2.1;refine aB (kg names 6 (by omega) hnl) ?_;simp -implicitDefEqProofs (disch:=omega) only[go_sem]<;>(repeat(with_reducible refine And.intro ?_ ?_;focus first|omega|rfl|assumption|exact⟨_,rfl,rfl⟩|(simp;omega)|(simp;done)));refine bL ?_;unfold fQ;rw[h1,h2.2,hall,bJ na,dD (show t.dG.length<=4 by omega),hlen];unfold iQ;rw[hn,F9,Bool.and_true];simp only[Bool.true_and,Bool.not_false];congr 1;exact gG ⟨fun h=>by omega,fun h=>by omega⟩
   ·refine bL ?_;unfold fQ
    have h2:(dec (t.dG.length<=4)&&iQ t.dG)=false:=by
     rw[<-h];congr 1;exact gG ⟨fun h=>by omega,fun h=>by omega⟩
    rw[<-Bool.and_assoc (dec (t.dG.length<=4)),h2];simp
  ·exact bL (by unfold fQ;rw[h];rfl)
def xB:List UInt8:=[97,117,116,111]
def qP:List UInt8:=[116,114,97,105,116]
def mO(t:bD):List (List UInt8):=(if t.nN=true then [xB] else [])++(if t.bX=true then [iZ] else [])
def tH(g:aI):au:=eB ([bQ g.fName,eB (g.bO.map dU),dU g.dn]++if g.iC=true then [eB (cZ g.aU),fM g.fBody] else [])
def oK(t:bD):List au:=[bQ qP,bQ t.fName,eB (cZ t.dG),eB (cZ (mO t))]
def vO(t:bD):au:=eB (oK t++t.aO.map tH)
noncomputable def LP(x:bD):au:=um (fQ x) (vO x)
theorem aex{x:bD}(h:x.sz<=1048576):(LP x).sz<=1048576:=Nat.le_trans (IE _ _) (by decide)
theorem IL{g:aI}(h:g.iC=true):(tH g).aA=[bQ g.fName,eB (g.bO.map dU),dU g.dn,eB (cZ g.aU),fM g.fBody]:=by rw[tH,if_pos h];rfl
theorem IQ{g:aI}(h:g.iC=false):(tH g).aA=[bQ g.fName,eB (g.bO.map dU),dU g.dn]:=by rw[tH,if_neg (by rw[h];decide)];rfl
theorem J6(g:aI):(tH g).bH=[]:=rfl
theorem vo{g:aI}(h:jQ g=true):j4 g.bO=true/\formed g.dn=true/\(g.iC=true->iY g.fBody=true):=by
 unfold jQ at h;simp only[Bool.and_eq_true] at h;obtain⟨_,_,h1,h2,h3⟩:=h;refine⟨vM h1,tF h2,fun hd=> ?_⟩;rw[if_pos hd,Bool.and_eq_true] at h3;exact Cq h3.2
theorem ajc(g:aI)(hok:jQ g=true):(tH g).sz<=48+32*g.sz:=by
 obtain⟨_,_,hb⟩:=vo hok;have h1:=Li g.bO;have h2:=zq g.dn;have h3:=aI.sum g;rw[eu,yt] at h3;by_cases hd:g.iC=true
 ·have h4:=GR g.fBody (hb hd);rw[tH,if_pos hd,jd];simp[dH,jc,jd,kR,pW];omega
 ·rw[tH,if_neg hd,jd];simp[dH,jc,jd,kR,pW];omega
theorem Vz:∀l:List aI,(∀g∈l,jQ g=true)->dH (l.map tH)<=48*l.length+32*aQ (l.map aI.enc)
 |[],_=>by simp[dH]
 |c::l,h=>by
  have h1:=ajc c (h c (List.mem_cons_self ..));have h2:=Vz l fun g hg=>h g (List.mem_cons_of_mem _ hg);rw[List.map_cons,dH,List.map_cons,aQ,List.length_cons];simp only[aI.sz] at h1;omega
theorem mh{t:bD}(h:fQ t=true):(∀g∈t.aO,jQ g=true)/\¬(t.nN=true/\t.bX=true):=by
 unfold fQ at h;simp only[Bool.and_eq_true,Bool.not_eq_true'] at h;obtain⟨_,_,_,_,h1,h2,_⟩:=h;refine⟨fun g hg=>List.all_eq_true.1 h2 g hg,fun hh=> ?_⟩;rw[dD (show IJ t from⟨hh.1,.inl hh.2⟩)] at h1;cases h1
theorem aa9(t:bD):(mO t).length<=2/\((mO t).map List.length).sum<=9:=by
 unfold mO;split<;>split<;>simp[xB,iZ]
theorem Nk{t:bD}(hok:fQ t=true):(vO t).sz<=64+49*t.sz:=by
 have h1:=Vz t.aO (mh hok).1;have h2:=aa9 t;have h3:=bD.sum t;rw[eu] at h3;rw[vO,jd,jO,List.length_append,List.length_map];simp[oK,dH,jc,jd,kR,pW,qP];omega
theorem aey(t:bD)(hv:fQ t=true)(hsz:t.sz<=1048576)(ha:t.nN=true)(hs:t.bX=false):aX prog 254 [t.v] (Bv (vO t)).v:=fun S=>by
 have hdz:=bD.sum t;rw[eu] at hdz;obtain⟨hso,_⟩:=mh hv;have hz:=Nk hv
 have hfl:mO t=[xB]:=by unfold mO;rw[ha,hs];rfl
 obtain⟨T,hT⟩:∃T:Nat->List (List D),T=fun i=>(oK t++(t.aO.map tH).take i).map au.enc:=⟨_,rfl⟩
 have hT0:T 0=[[.s qP,.sl []],[.s t.fName,.sl []],[.s [],.sl ((cZ t.dG).map au.enc)],[.s [],.sl ((cZ [xB]).map au.enc)]]:=by
  rw[hT];simp only[List.take_zero,List.append_nil,oK,hfl,List.map_cons,List.map_nil,eU,jg]
 have jY:∀i,(T i).length<=i+4:=fun i=>by
  rw[hT];simp only[List.length_map,List.length_append];have:=List.length_take_le i (t.aO.map tH);simp[oK];omega
 have hTs:∀i (hi:i<t.aO.length),T i++[[.s [],.sl ((tH t.aO[i]).aA.map au.enc)]]=T (i+1):=fun i hi=>by
  have:=iN (base:=oK t) (l:=t.aO.map tH) (i:=i) (by rw[List.length_map];exact hi);rw[List.getElem_map,J6] at this;rw[hT];exact this
 have hTr:∀i,∀r∈T i,r.length=2:=fun i=>by rw[hT];exact jf
 have hTe:T t.aO.length=(vO t).aA.map au.enc:=by
  rw[hT];simp only
  rw[List.take_of_length_le (by simp)];rfl
 clear hT;refine zcx [.cell 2 202] func254 ntmps254 ?_;simp -implicitDefEqProofs (disch:=omega) only[go_sem];refine aB (nI t (by omega)) ?_;simp -implicitDefEqProofs (disch:=omega) only[go_sem,hv,ha,hs]
 (repeat(with_reducible refine And.intro ?_ ?_;focus first|omega|rfl|assumption|exact⟨_,rfl,rfl⟩|(simp;omega)|(simp;done)))
 refine aB (bS _) ?_;simp -implicitDefEqProofs (disch:=omega) only[go_sem];refine aB (bS _) ?_;simp -implicitDefEqProofs (disch:=omega) only[go_sem];refine aB (dZ t.dG (by omega)) ?_;simp -implicitDefEqProofs (disch:=omega) only[go_sem];refine aB (dZ [xB] (by simp)) ?_;simp -implicitDefEqProofs (disch:=omega) only[go_sem];have hE:=fun cB Ω=>jK (T 0) (hTr 0) (by have:=jY 0;omega) cB Ω;simp only[hT0] at hE;refine cu [false] rfl (hE _ _) ?_;simp -implicitDefEqProofs (disch:=omega) only[go_sem]
 refine bN (ι:=Nat) zmx rfl [1,2,4,5] (fun i=>[.c (.ptr (0,0) 0),.c (.ptr (0,1) 0),.c (.ptr (0,5) 0),.c (.d (.i .i64 i))])
  (fun i=>[.box [.d (.s t.fName),.d (.sl (t.dG.map encS)),.d (.b true),.d (.b false),.d (.sl (t.aO.map aI.enc))],.box [.d (.s []),.bM []],.tok 1 [[.s xB]],.box [.d (.s []),.bV (0,4) (T 0)],.tok 2 (T i),.box [.d (.s []),.bV (0,4) (T i)]]::S)
  (fun i=>i<=t.aO.length) (fun i=>t.aO.length-i) 0 rfl (by simp only[hT0]<;>(try rfl)) (Nat.zero_le _) ?_
 intro i hi;have hl:=jY i;simp -implicitDefEqProofs (disch:=omega) only[go_sem]
 with_reducible refine aC (fun hb=> ?_) (fun hb=> ?_)<;>have h:=hb<;>(try simp only[wf_preprocess] at h)<;>simp -implicitDefEqProofs (disch:=omega) only[go_sem,hb]<;>(repeat(with_reducible refine And.intro ?_ ?_;focus first|omega|rfl|assumption|exact⟨_,rfl,rfl⟩|(simp;omega)|(simp;done)))
 ·have hi':i<t.aO.length:=by omega
  have hm:=List.getElem_mem hi';have hcz:=IK hm;have hce:=aI.sum t.aO[i];rw[eu] at hce;obtain⟨q1,q2,q3⟩:=vo (hso _ hm);have hst:=hTs i hi'
  (repeat(with_reducible refine And.intro ?_ ?_;focus first|omega|rfl|assumption|exact⟨_,rfl,rfl⟩|(simp;omega)|(simp;done)))
  refine aB (bS _) ?_;simp -implicitDefEqProofs (disch:=omega) only[go_sem];refine aB (Ak t.aO[i].bO (by omega) (fun u hu=>by have:=II hu;omega)) ?_;simp -implicitDefEqProofs (disch:=omega) only[go_sem];refine aB (jX t.aO[i].dn (by omega)) ?_;simp -implicitDefEqProofs (disch:=omega) only[go_sem];refine cu [false] rfl (jK _ (by simp) (by simp) _ _) ?_;simp -implicitDefEqProofs (disch:=omega) only[go_sem]
  with_reducible refine aC (fun hb=> ?_) (fun hb=> ?_)<;>have h:=hb<;>(try simp only[wf_preprocess] at h)<;>simp -implicitDefEqProofs (disch:=omega) only[go_sem,hb]<;>(repeat(with_reducible refine And.intro ?_ ?_;focus first|omega|rfl|assumption|exact⟨_,rfl,rfl⟩|(simp;omega)|(simp;done)))
  ·rw[IL h] at hst;simp only[List.map_cons,List.map_nil,eU,jg,au.aj (dU t.aO[i].dn),au.aj (fM t.aO[i].fBody)] at hst;refine aB (dZ t.aO[i].aU (by omega)) ?_;simp -implicitDefEqProofs (disch:=omega) only[go_sem];refine aB (rA t.aO[i].fBody (q3 h) (by omega)) ?_;simp -implicitDefEqProofs (disch:=omega) only[go_sem]
   (repeat(with_reducible refine And.intro ?_ ?_;focus first|omega|rfl|assumption|exact⟨_,rfl,rfl⟩|(simp;omega)|(simp;done)))
   rw[hst];exact fu 6 (by decide) (i+1) (by omega) rfl rfl rfl rfl (by omega)
  ·rw[IQ h] at hst;simp only[List.map_cons,List.map_nil,eU,jg,au.aj (dU t.aO[i].dn)] at hst
   (repeat(with_reducible refine And.intro ?_ ?_;focus first|omega|rfl|assumption|exact⟨_,rfl,rfl⟩|(simp;omega)|(simp;done)))
   rw[hst];exact fu 6 (by decide) (i+1) (by omega) rfl rfl rfl rfl (by omega)
 ·have hi':i=t.aO.length:=by omega
  subst hi';rw[hTe];refine aB (pY true (vO t) (by omega)) ?_;simp -implicitDefEqProofs (disch:=omega) only[go_sem];rfl
theorem aez(t:bD)(hv:fQ t=true)(hsz:t.sz<=1048576)(ha:t.nN=false)(hs:t.bX=true):aX prog 254 [t.v] (Bv (vO t)).v:=fun S=>by
 have hdz:=bD.sum t;rw[eu] at hdz;obtain⟨hso,_⟩:=mh hv;have hz:=Nk hv
 have hfl:mO t=[iZ]:=by unfold mO;rw[ha,hs];rfl
 obtain⟨T,hT⟩:∃T:Nat->List (List D),T=fun i=>(oK t++(t.aO.map tH).take i).map au.enc:=⟨_,rfl⟩
 have hT0:T 0=[[.s qP,.sl []],[.s t.fName,.sl []],[.s [],.sl ((cZ t.dG).map au.enc)],[.s [],.sl ((cZ [iZ]).map au.enc)]]:=by
  rw[hT];simp only[List.take_zero,List.append_nil,oK,hfl,List.map_cons,List.map_nil,eU,jg]
 have jY:∀i,(T i).length<=i+4:=fun i=>by
  rw[hT];simp only[List.length_map,List.length_append];have:=List.length_take_le i (t.aO.map tH);simp[oK];omega
 have hTs:∀i (hi:i<t.aO.length),T i++[[.s [],.sl ((tH t.aO[i]).aA.map au.enc)]]=T (i+1):=fun i hi=>by
  have:=iN (base:=oK t) (l:=t.aO.map tH) (i:=i) (by rw[List.length_map];exact hi);rw[List.getElem_map,J6] at this;rw[hT];exact this
 have hTr:∀i,∀r∈T i,r.length=2:=fun i=>by rw[hT];exact jf
 have hTe:T t.aO.length=(vO t).aA.map au.enc:=by
  rw[hT];simp only
  rw[List.take_of_length_le (by simp)];rfl
 clear hT;refine zcx [.cell 2 202] func254 ntmps254 ?_;simp -implicitDefEqProofs (disch:=omega) only[go_sem];refine aB (nI t (by omega)) ?_;simp -implicitDefEqProofs (disch:=omega) only[go_sem,hv,ha,hs]
 (repeat(with_reducible refine And.intro ?_ ?_;focus first|omega|rfl|assumption|exact⟨_,rfl,rfl⟩|(simp;omega)|(simp;done)))
 refine aB (bS _) ?_;simp -implicitDefEqProofs (disch:=omega) only[go_sem];refine aB (bS _) ?_;simp -implicitDefEqProofs (disch:=omega) only[go_sem];refine aB (dZ t.dG (by omega)) ?_;simp -implicitDefEqProofs (disch:=omega) only[go_sem];refine aB (dZ [iZ] (by simp)) ?_;simp -implicitDefEqProofs (disch:=omega) only[go_sem];have hE:=fun cB Ω=>jK (T 0) (hTr 0) (by have:=jY 0;omega) cB Ω;simp only[hT0] at hE;refine cu [false] rfl (hE _ _) ?_;simp -implicitDefEqProofs (disch:=omega) only[go_sem]
 refine bN (ι:=Nat) zmx rfl [1,2,4,5] (fun i=>[.c (.ptr (0,0) 0),.c (.ptr (0,1) 0),.c (.ptr (0,5) 0),.c (.d (.i .i64 i))])
  (fun i=>[.box [.d (.s t.fName),.d (.sl (t.dG.map encS)),.d (.b false),.d (.b true),.d (.sl (t.aO.map aI.enc))],.box [.d (.s []),.bM []],.tok 1 [[.s iZ]],.box [.d (.s []),.bV (0,4) (T 0)],.tok 2 (T i),.box [.d (.s []),.bV (0,4) (T i)]]::S)
  (fun i=>i<=t.aO.length) (fun i=>t.aO.length-i) 0 rfl (by simp only[hT0]<;>(try rfl)) (Nat.zero_le _) ?_
 intro i hi;have hl:=jY i;simp -implicitDefEqProofs (disch:=omega) only[go_sem]
 with_reducible refine aC (fun hb=> ?_) (fun hb=> ?_)<;>have h:=hb<;>(try simp only[wf_preprocess] at h)<;>simp -implicitDefEqProofs (disch:=omega) only[go_sem,hb]<;>(repeat(with_reducible refine And.intro ?_ ?_;focus first|omega|rfl|assumption|exact⟨_,rfl,rfl⟩|(simp;omega)|(simp;done)))
 ·have hi':i<t.aO.length:=by omega
  have hm:=List.getElem_mem hi';have hcz:=IK hm;have hce:=aI.sum t.aO[i];rw[eu] at hce;obtain⟨q1,q2,q3⟩:=vo (hso _ hm);have hst:=hTs i hi'
  (repeat(with_reducible refine And.intro ?_ ?_;focus first|omega|rfl|assumption|exact⟨_,rfl,rfl⟩|(simp;omega)|(simp;done)))
  refine aB (bS _) ?_;simp -implicitDefEqProofs (disch:=omega) only[go_sem];refine aB (Ak t.aO[i].bO (by omega) (fun u hu=>by have:=II hu;omega)) ?_;simp -implicitDefEqProofs (disch:=omega) only[go_sem];refine aB (jX t.aO[i].dn (by omega)) ?_;simp -implicitDefEqProofs (disch:=omega) only[go_sem];refine cu [false] rfl (jK _ (by simp) (by simp) _ _) ?_;simp -implicitDefEqProofs (disch:=omega) only[go_sem]
  with_reducible refine aC (fun hb=> ?_) (fun hb=> ?_)<;>have h:=hb<;>(try simp only[wf_preprocess] at h)<;>simp -implicitDefEqProofs (disch:=omega) only[go_sem,hb]<;>(repeat(with_reducible refine And.intro ?_ ?_;focus first|omega|rfl|assumption|exact⟨_,rfl,rfl⟩|(simp;omega)|(simp;done)))
  ·rw[IL h] at hst;simp only[List.map_cons,List.map_nil,eU,jg,au.aj (dU t.aO[i].dn),au.aj (fM t.aO[i].fBody)] at hst;refine aB (dZ t.aO[i].aU (by omega)) ?_;simp -implicitDefEqProofs (disch:=omega) only[go_sem];refine aB (rA t.aO[i].fBody (q3 h) (by omega)) ?_;simp -implicitDefEqProofs (disch:=omega) only[go_sem]
   (repeat(with_reducible refine And.intro ?_ ?_;focus first|omega|rfl|assumption|exact⟨_,rfl,rfl⟩|(simp;omega)|(simp;done)))
   rw[hst];exact fu 6 (by decide) (i+1) (by omega) rfl rfl rfl rfl (by omega)
  ·rw[IQ h] at hst;simp only[List.map_cons,List.map_nil,eU,jg,au.aj (dU t.aO[i].dn)] at hst
   (repeat(with_reducible refine And.intro ?_ ?_;focus first|omega|rfl|assumption|exact⟨_,rfl,rfl⟩|(simp;omega)|(simp;done)))
   rw[hst];exact fu 6 (by decide) (i+1) (by omega) rfl rfl rfl rfl (by omega)
 ·have hi':i=t.aO.length:=by omega
  subst hi';rw[hTe];refine aB (pY true (vO t) (by omega)) ?_;simp -implicitDefEqProofs (disch:=omega) only[go_sem];rfl
theorem aeA(t:bD)(hv:fQ t=true)(hsz:t.sz<=1048576)(ha:t.nN=false)(hs:t.bX=false):aX prog 254 [t.v] (Bv (vO t)).v:=fun S=>by
 have hdz:=bD.sum t;rw[eu] at hdz;obtain⟨hso,_⟩:=mh hv;have hz:=Nk hv
 have hfl:mO t=[]:=by unfold mO;rw[ha,hs];rfl
 obtain⟨T,hT⟩:∃T:Nat->List (List D),T=fun i=>(oK t++(t.aO.map tH).take i).map au.enc:=⟨_,rfl⟩
 have hT0:T 0=[[.s qP,.sl []],[.s t.fName,.sl []],[.s [],.sl ((cZ t.dG).map au.enc)],[.s [],.sl ((cZ []).map au.enc)]]:=by
  rw[hT];simp only[List.take_zero,List.append_nil,oK,hfl,List.map_cons,List.map_nil,eU,jg]
 have jY:∀i,(T i).length<=i+4:=fun i=>by
  rw[hT];simp only[List.length_map,List.length_append];have:=List.length_take_le i (t.aO.map tH);simp[oK];omega
 have hTs:∀i (hi:i<t.aO.length),T i++[[.s [],.sl ((tH t.aO[i]).aA.map au.enc)]]=T (i+1):=fun i hi=>by
  have:=iN (base:=oK t) (l:=t.aO.map tH) (i:=i) (by rw[List.length_map];exact hi);rw[List.getElem_map,J6] at this;rw[hT];exact this
 have hTr:∀i,∀r∈T i,r.length=2:=fun i=>by rw[hT];exact jf
 have hTe:T t.aO.length=(vO t).aA.map au.enc:=by
  rw[hT];simp only
  rw[List.take_of_length_le (by simp)];rfl
 clear hT;refine zcx [.cell 2 202] func254 ntmps254 ?_;simp -implicitDefEqProofs (disch:=omega) only[go_sem];refine aB (nI t (by omega)) ?_;simp -implicitDefEqProofs (disch:=omega) only[go_sem,hv,ha,hs]
 (repeat(with_reducible refine And.intro ?_ ?_;focus first|omega|rfl|assumption|exact⟨_,rfl,rfl⟩|(simp;omega)|(simp;done)))
 refine aB (bS _) ?_;simp -implicitDefEqProofs (disch:=omega) only[go_sem];refine aB (bS _) ?_;simp -implicitDefEqProofs (disch:=omega) only[go_sem];refine aB (dZ t.dG (by omega)) ?_;simp -implicitDefEqProofs (disch:=omega) only[go_sem];refine aB (dZ [] (by simp)) ?_;simp -implicitDefEqProofs (disch:=omega) only[go_sem];have hE:=fun cB Ω=>jK (T 0) (hTr 0) (by have:=jY 0;omega) cB Ω;simp only[hT0] at hE;refine cu [false] rfl (hE _ _) ?_;simp -implicitDefEqProofs (disch:=omega) only[go_sem]
 refine bN (ι:=Nat) zmx rfl [1,2,4,5] (fun i=>[.c (.ptr (0,0) 0),.c (.ptr (0,1) 0),.c (.ptr (0,4) 0),.c (.d (.i .i64 i))])
  (fun i=>[.box [.d (.s t.fName),.d (.sl (t.dG.map encS)),.d (.b false),.d (.b false),.d (.sl (t.aO.map aI.enc))],.box [.d (.s []),.bM []],.box [.d (.s []),.bV (0,3) (T 0)],.tok 2 (T i),.box [.d (.s []),.bV (0,3) (T i)]]::S)
  (fun i=>i<=t.aO.length) (fun i=>t.aO.length-i) 0 rfl (by simp only[hT0]<;>(try rfl)) (Nat.zero_le _) ?_
 intro i hi;have hl:=jY i;simp -implicitDefEqProofs (disch:=omega) only[go_sem]
 with_reducible refine aC (fun hb=> ?_) (fun hb=> ?_)<;>have h:=hb<;>(try simp only[wf_preprocess] at h)<;>simp -implicitDefEqProofs (disch:=omega) only[go_sem,hb]<;>(repeat(with_reducible refine And.intro ?_ ?_;focus first|omega|rfl|assumption|exact⟨_,rfl,rfl⟩|(simp;omega)|(simp;done)))
 ·have hi':i<t.aO.length:=by omega
  have hm:=List.getElem_mem hi';have hcz:=IK hm;have hce:=aI.sum t.aO[i];rw[eu] at hce;obtain⟨q1,q2,q3⟩:=vo (hso _ hm);have hst:=hTs i hi'
  (repeat(with_reducible refine And.intro ?_ ?_;focus first|omega|rfl|assumption|exact⟨_,rfl,rfl⟩|(simp;omega)|(simp;done)))
  refine aB (bS _) ?_;simp -implicitDefEqProofs (disch:=omega) only[go_sem];refine aB (Ak t.aO[i].bO (by omega) (fun u hu=>by have:=II hu;omega)) ?_;simp -implicitDefEqProofs (disch:=omega) only[go_sem];refine aB (jX t.aO[i].dn (by omega)) ?_;simp -implicitDefEqProofs (disch:=omega) only[go_sem];refine cu [false] rfl (jK _ (by simp) (by simp) _ _) ?_;simp -implicitDefEqProofs (disch:=omega) only[go_sem]
  with_reducible refine aC (fun hb=> ?_) (fun hb=> ?_)<;>have h:=hb<;>(try simp only[wf_preprocess] at h)<;>simp -implicitDefEqProofs (disch:=omega) only[go_sem,hb]<;>(repeat(with_reducible refine And.intro ?_ ?_;focus first|omega|rfl|assumption|exact⟨_,rfl,rfl⟩|(simp;omega)|(simp;done)))
  ·rw[IL h] at hst;simp only[List.map_cons,List.map_nil,eU,jg,au.aj (dU t.aO[i].dn),au.aj (fM t.aO[i].fBody)] at hst;refine aB (dZ t.aO[i].aU (by omega)) ?_;simp -implicitDefEqProofs (disch:=omega) only[go_sem];refine aB (rA t.aO[i].fBody (q3 h) (by omega)) ?_;simp -implicitDefEqProofs (disch:=omega) only[go_sem]
   (repeat(with_reducible refine And.intro ?_ ?_;focus first|omega|rfl|assumption|exact⟨_,rfl,rfl⟩|(simp;omega)|(simp;done)))
   rw[hst];exact fu 5 (by decide) (i+1) (by omega) rfl rfl rfl rfl (by omega)
  ·rw[IQ h] at hst;simp only[List.map_cons,List.map_nil,eU,jg,au.aj (dU t.aO[i].dn)] at hst
   (repeat(with_reducible refine And.intro ?_ ?_;focus first|omega|rfl|assumption|exact⟨_,rfl,rfl⟩|(simp;omega)|(simp;done)))
   rw[hst];exact fu 5 (by decide) (i+1) (by omega) rfl rfl rfl rfl (by omega)
 ·have hi':i=t.aO.length:=by omega
  subst hi';rw[hTe];refine aB (pY true (vO t) (by omega)) ?_;simp -implicitDefEqProofs (disch:=omega) only[go_sem];rfl
theorem abb(t:bD)(hsz:t.sz<=1048576):aX prog 254 [t.v] (LP t).v:=by
 unfold LP
 cases hv:fQ t with
 |false=>
  rw[um];refine aX.less (fun S=> ?_) (DU [] []);refine zcx [.cell 2 202] func254 ntmps254 ?_;simp -implicitDefEqProofs (disch:=omega) only[go_sem];refine aB (nI t (by omega)) ?_;simp -implicitDefEqProofs (disch:=omega) only[go_sem,hv]
 |true=>
  rw[um];have hb:=(mh hv).2
  cases ha:t.nN with
  |true=>
   cases hs:t.bX with
   |true=>exact absurd ⟨ha,hs⟩ hb
   |false=>exact aey t hv hsz ha hs
  |false=>
   cases hs:t.bX with
   |true=>exact aez t hv hsz ha hs
   |false=>exact aeA t hv hsz ha hs
end Go.Ab