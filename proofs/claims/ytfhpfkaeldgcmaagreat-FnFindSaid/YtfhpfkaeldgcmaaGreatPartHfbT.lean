/-
  SEVERAL TEXTS IN ONE (merged by program): contracts and models, each with its own heading.
-/
import Derived.Test.YtfhpfkaeldgcmaaGreatPartHfbS
open Go.Proofs Go.Proofs.Tryz
set_option linter.unusedSimpArgs false
set_option linter.unusedVariables false
set_option maxRecDepth 4000
namespace Go.Ab
noncomputable def qw(t:bF):List (List UInt8):=t.aK.map aI.fName
noncomputable def Ih(t:bF):Prop:=t.lV=true/\(t.bW=true\/0<t.aK.length\/0<t.cO.length)
noncomputable def fT(t:bF):Bool:=
 validName t.fName&&(dec (t.cO.length<=4)&&(iT t.cO&&(dec (t.aK.length<=6)&&(!dec (Ih t)&&(t.aK.all j3&&dec (qw t).Nodup)))))
theorem bF.sum(x:bF):x.fName.length+(x.cO.length+aN (x.cO.map encS))+(x.aK.length+aN (x.aK.map aI.enc))<=x.sz:=by
 simp only[bF.sz,bF.aj,bD,aY,D.sz,List.length_map];omega
theorem Ii{xs:List aI}{t:aI}(h:t∈xs):t.sz<=aN (xs.map aI.enc):=dx (List.mem_map_of_mem h)
theorem X8{g:aI}(h:j3 g=true):validName g.fName=true:=by
 unfold j3 at h;rw[Bool.and_eq_true] at h;exact h.1
theorem Um{t:bF}(h:t.aK.all j3=true):(qw t).all validName=true:=by
 unfold qw;rw[List.all_map];refine List.all_eq_true.2 fun g hg=>X8 (List.all_eq_true.1 h g hg)
theorem nI(t:bF)(hsz:t.sz<=4194304):bg prog 123 [t.v] (.c (.d (.b (fT t)))):=fun S=>by
 have hs:=bF.sum t
 have hV:∀s∈t.cO,s.length<=4194304:=fun s h=>by have:=y8 h;omega
 have hG:∀g∈t.aK,g.sz<=4194304:=fun g h=>by have:=Ii h;omega
 have bad:∀i,∀hi:i<t.aK.length,j3 t.aK[i]=false->fT t=false:=fun i hi h=>by
  have:t.aK.all j3=false:=Bool.eq_false_iff.2 fun hx=>by
   rw[List.all_eq_true.1 hx _ (List.getElem_mem hi)] at h;cases h
  unfold fT
  rw[this];simp
 have amH:Ih t->V.c (.d (.b false))=V.c (.d (.b (fT t))):=fun h=>bN (by unfold fT;rw[dH h];simp);refine zcx [.tmp 2] func123 ntmps123 ?_;simp -implicitDefEqProofs (disch:=omega) only[go_sem]
 (repeat(with_reducible refine And.intro ?_ ?_;focus first|omega|rfl|assumption|exact⟨_,rfl,rfl⟩|(simp;omega)|(simp;done)))
 refine iZ 3 1 [] rfl (by simp) ?_
 refine bO (ι:=Nat×List (List UInt8)) zmx rfl [1,3,4] (fun y=>[.c (.ptr (0,0) 0),.c (.bS (0,1) (y.2.map encS)),.c (.d (.i .i64 y.1))]) (fun y=>[.box (t.enc.map .d),.tok 1 (y.2.map encS)]::S)
  (fun y=>y.1<=t.aK.length/\y.2=(qw t).take y.1/\∀j,∀hj:j<t.aK.length,j<y.1->j3 t.aK[j]=true) (fun y=>t.aK.length-y.1) (0,[]) rfl ?_ ⟨Nat.zero_le _,rfl,fun j _ h=>by simp only at h;omega⟩ ?_
 ·simp -implicitDefEqProofs (disch:=omega) only[go_sem]
 rintro⟨i,names⟩ ⟨p1,p2,p3⟩;simp only at p1 p2 p3
 have pl:names.length<=t.aK.length:=by rw[p2];simp[qw];omega
 simp -implicitDefEqProofs (disch:=omega) only[go_sem]
 with_reducible refine aD (fun hb=> ?_) (fun hb=> ?_)<;>have h:=hb<;>(try simp only[wf_preprocess] at h)<;>simp -implicitDefEqProofs (disch:=omega) only[go_sem,hb]<;>(repeat(with_reducible refine And.intro ?_ ?_;focus first|omega|rfl|assumption|exact⟨_,rfl,rfl⟩|(simp;omega)|(simp;done)))
 ·have hi:i<t.aK.length:=by omega
  (repeat(with_reducible refine And.intro ?_ ?_;focus first|omega|rfl|assumption|exact⟨_,rfl,rfl⟩|(simp;omega)|(simp;done)))
  refine aB (aaO t.aK[i] (hG _ (List.getElem_mem hi))) ?_;simp -implicitDefEqProofs (disch:=omega) only[go_sem]<;>(repeat(with_reducible refine And.intro ?_ ?_;focus first|omega|rfl|assumption|exact⟨_,rfl,rfl⟩|(simp;omega)|(simp;done)))
  with_reducible refine aD (fun hb=> ?_) (fun hb=> ?_)<;>have h:=hb<;>(try simp only[wf_preprocess] at h)<;>simp -implicitDefEqProofs (disch:=omega) only[go_sem,hb]<;>(repeat(with_reducible refine And.intro ?_ ?_;focus first|omega|rfl|assumption|exact⟨_,rfl,rfl⟩|(simp;omega)|(simp;done)))
  ·rw[bad i hi h]
  have k2:=h
  (repeat(with_reducible refine And.intro ?_ ?_;focus first|omega|rfl|assumption|exact⟨_,rfl,rfl⟩|(simp;omega)|(simp;done)))
  rw[show List.map encS names++[[D.s t.aK[i].fName]]=List.map encS (names++[t.aK[i].fName]) by simp[encS]]
  exact cZ (i+1,names++[t.aK[i].fName]) (by simp only;omega) rfl rfl ⟨by simp only;omega,by simp only;rw[p2,jB (by simpa [qw] using hi)];simp[qw],fun j hj hji=>by
   simp only at hji;by_cases e:j=i
   ·subst e;exact k2
   ·exact p3 j hj (by omega)⟩
 have hi:i=t.aK.length:=by omega
 have hn:names=qw t:=by rw[p2,List.take_of_length_le (by simp[qw];omega)]
 have hall:t.aK.all j3=true:=List.all_eq_true.2 fun c hc=>by
  obtain⟨j,hj,e⟩:=List.getElem_of_mem hc;rw[<-e];exact p3 j hj (by omega)
 have Ko:=Um hall
 have hnl:∀s∈names,s.length<=4194304:=fun s hm=>by
  rw[hn] at hm;obtain⟨g,hg,e⟩:=List.mem_map.1 hm;have:=hG g hg;have:=aI.sum g;rw[<-e];omega
 have hlen:names.length=t.aK.length:=by rw[hn];simp[qw]
 clear bad p2 p3
 repeat' (first|with_reducible refine aD (fun hb=> ?_) (fun hb=> ?_)<;>have h:=hb<;>(try simp only[wf_preprocess] at h)<;>simp -implicitDefEqProofs (disch:=omega) only[go_sem,hb]<;>(repeat(with_reducible refine And.intro ?_ ?_;focus first|omega|rfl|assumption|exact⟨_,rfl,rfl⟩|(simp;omega)|(simp;done))))
 all_goals first
  |(refine amH ⟨by assumption,?_⟩;first|exact .inl (by assumption)|exact .inr (.inl (by omega))|exact .inr (.inr (by omega)))
  |skip
 all_goals
  have na:¬Ih t:=fun x=>by
   obtain⟨x1,x2⟩:=x
   rcases x2 with x2|x2|x2<;>first|omega|simp_all
  (repeat(with_reducible refine And.intro ?_ ?_;focus first|omega|rfl|assumption|exact⟨_,rfl,rfl⟩|(simp;omega)|(simp;done)))
  refine aB (gU t.fName (by omega)) ?_;simp -implicitDefEqProofs (disch:=omega) only[go_sem]
  with_reducible refine aD (fun hb=> ?_) (fun hb=> ?_)<;>have h:=hb<;>(try simp only[wf_preprocess] at h)<;>simp -implicitDefEqProofs (disch:=omega) only[go_sem,hb]<;>(repeat(with_reducible refine And.intro ?_ ?_;focus first|omega|rfl|assumption|exact⟨_,rfl,rfl⟩|(simp;omega)|(simp;done)))
  ·have h1:=h
   (repeat(with_reducible refine And.intro ?_ ?_;focus first|omega|rfl|assumption|exact⟨_,rfl,rfl⟩|(simp;omega)|(simp;done)))
   refine aB (kG t.cO 4 (by omega) hV) ?_;simp -implicitDefEqProofs (disch:=omega) only[go_sem]<;>(repeat(with_reducible refine And.intro ?_ ?_;focus first|omega|rfl|assumption|exact⟨_,rfl,rfl⟩|(simp;omega)|(simp;done)))
   with_reducible refine aD (fun hb=> ?_) (fun hb=> ?_)<;>have h:=hb<;>(try simp only[wf_preprocess] at h)<;>simp -implicitDefEqProofs (disch:=omega) only[go_sem,hb]<;>(repeat(with_reducible refine And.intro ?_ ?_;focus first|omega|rfl|assumption|exact⟨_,rfl,rfl⟩|(simp;omega)|(simp;done)))
   ·have h2:=h;rw[Bool.and_eq_true] at h2;have h3:=gP h2.1;refine aB (kG names 6 (by omega) hnl) ?_;simp -implicitDefEqProofs (disch:=omega) only[go_sem]<;>(repeat(with_reducible refine And.intro ?_ ?_;focus first|omega|rfl|assumption|exact⟨_,rfl,rfl⟩|(simp;omega)|(simp;done)));refine bN ?_;unfold fT;rw[h1,h2.2,hall,bM na,dH (show t.cO.length<=4 by omega),hlen];unfold iT;rw[hn,Ko,Bool.and_true];simp only[Bool.true_and,Bool.not_false];congr 1;exact kX ⟨fun h=>by omega,fun h=>by omega⟩
   ·refine bN ?_;unfold fT
    have h2:(dec (t.cO.length<=4)&&iT t.cO)=false:=by
     rw[<-h];congr 1;exact kX ⟨fun h=>by omega,fun h=>by omega⟩
    rw[<-Bool.and_assoc (dec (t.cO.length<=4)),h2];simp
  ·exact bN (by unfold fT;rw[h];rfl)
def xg:List UInt8:=[97,117,116,111]
def qO:List UInt8:=[116,114,97,105,116]
def mX(t:bF):List (List UInt8):=(if t.lV=true then [xg] else [])++(if t.bW=true then [je] else [])
def tL(g:aI):au:=eD ([bR g.fName,eD (g.bP.map dR),dR g.cu]++if g.gT=true then [eD (dn g.aS),fQ g.fBody] else [])
def oG(t:bF):List au:=[bR qO,bR t.fName,eD (dn t.cO),eD (dn (mX t))]
def vN(t:bF):au:=eD (oG t++t.aK.map tL)
noncomputable def Ls(x:bF):au:=uw (fT x) (vN x)
theorem ad6{x:bF}(h:x.sz<=1048576):(Ls x).sz<=1048576:=Nat.le_trans (Ib _ _) (by decide)
theorem Ij{g:aI}(h:g.gT=true):(tL g).aA=[bR g.fName,eD (g.bP.map dR),dR g.cu,eD (dn g.aS),fQ g.fBody]:=by rw[tL,if_pos h];rfl
theorem Ik{g:aI}(h:g.gT=false):(tL g).aA=[bR g.fName,eD (g.bP.map dR),dR g.cu]:=by rw[tL,if_neg (by rw[h];decide)];rfl
theorem JL(g:aI):(tL g).bK=[]:=rfl
theorem vk{g:aI}(h:j3 g=true):kD g.bP=true/\formed g.cu=true/\(g.gT=true->jd g.fBody=true):=by
 unfold j3 at h;simp only[Bool.and_eq_true] at h;obtain⟨_,_,h1,h2,h3⟩:=h;refine⟨vL h1,tK h2,fun hd=> ?_⟩;rw[if_pos hd,Bool.and_eq_true] at h3;exact Cb h3.2
theorem aiO(g:aI)(hok:j3 g=true):(tL g).sz<=48+32*g.sz:=by
 obtain⟨_,_,hb⟩:=vk hok;have h1:=K5 g.bP;have h2:=y9 g.cu;have h3:=aI.sum g;rw[eB,x9] at h3;by_cases hd:g.gT=true
 ·have h4:=Gu g.fBody (hb hd);rw[tL,if_pos hd,jg];simp[dK,jf,jg,kZ,pJ];omega
 ·rw[tL,if_neg hd,jg];simp[dK,jf,jg,kZ,pJ];omega
theorem Vj:∀l:List aI,(∀g∈l,j3 g=true)->dK (l.map tL)<=48*l.length+32*aN (l.map aI.enc)
 |[],_=>by simp[dK]
 |c::l,h=>by
  have h1:=aiO c (h c (List.mem_cons_self ..));have h2:=Vj l fun g hg=>h g (List.mem_cons_of_mem _ hg);rw[List.map_cons,dK,List.map_cons,aN,List.length_cons];simp only[aI.sz] at h1;omega
theorem mE{t:bF}(h:fT t=true):(∀g∈t.aK,j3 g=true)/\¬(t.lV=true/\t.bW=true):=by
 unfold fT at h;simp only[Bool.and_eq_true,Bool.not_eq_true'] at h;obtain⟨_,_,_,_,h1,h2,_⟩:=h;refine⟨fun g hg=>List.all_eq_true.1 h2 g hg,fun hh=> ?_⟩;rw[dH (show Ih t from⟨hh.1,.inl hh.2⟩)] at h1;cases h1
theorem aaQ(t:bF):(mX t).length<=2/\((mX t).map List.length).sum<=9:=by
 unfold mX;split<;>split<;>simp[xg,je]
theorem Nb{t:bF}(hok:fT t=true):(vN t).sz<=64+49*t.sz:=by
 have h1:=Vj t.aK (mE hok).1;have h2:=aaQ t;have h3:=bF.sum t;rw[eB] at h3;rw[vN,jg,jY,List.length_append,List.length_map];simp[oG,dK,jf,jg,kZ,pJ,qO];omega
theorem ad7(t:bF)(hv:fT t=true)(hsz:t.sz<=1048576)(ha:t.lV=true)(hs:t.bW=false):bg prog 254 [t.v] (Bg (vN t)).v:=fun S=>by
 have hdz:=bF.sum t;rw[eB] at hdz;obtain⟨hso,_⟩:=mE hv;have hz:=Nb hv
 have hfl:mX t=[xg]:=by unfold mX;rw[ha,hs];rfl
 obtain⟨T,hT⟩:∃T:Nat->List (List D),T=fun i=>(oG t++(t.aK.map tL).take i).map au.enc:=⟨_,rfl⟩
 have hT0:T 0=[[.s qO,.sl []],[.s t.fName,.sl []],[.s [],.sl ((dn t.cO).map au.enc)],[.s [],.sl ((dn [xg]).map au.enc)]]:=by
  rw[hT];simp only[List.take_zero,List.append_nil,oG,hfl,List.map_cons,List.map_nil,eY,jl]
 have iG:∀i,(T i).length<=i+4:=fun i=>by
  rw[hT];simp only[List.length_map,List.length_append];have:=List.length_take_le i (t.aK.map tL);simp[oG];omega
 have hTs:∀i (hi:i<t.aK.length),T i++[[.s [],.sl ((tL t.aK[i]).aA.map au.enc)]]=T (i+1):=fun i hi=>by
  have:=iP (base:=oG t) (l:=t.aK.map tL) (i:=i) (by rw[List.length_map];exact hi);rw[List.getElem_map,JL] at this;rw[hT];exact this
 have hTr:∀i,∀r∈T i,r.length=2:=fun i=>by rw[hT];exact jk
 have hTe:T t.aK.length=(vN t).aA.map au.enc:=by
  rw[hT];simp only
  rw[List.take_of_length_le (by simp)];rfl
 clear hT;refine zcx [.cell 2 202] func254 ntmps254 ?_;simp -implicitDefEqProofs (disch:=omega) only[go_sem];refine aB (nI t (by omega)) ?_;simp -implicitDefEqProofs (disch:=omega) only[go_sem,hv,ha,hs]
 (repeat(with_reducible refine And.intro ?_ ?_;focus first|omega|rfl|assumption|exact⟨_,rfl,rfl⟩|(simp;omega)|(simp;done)))
 refine aB (bT _) ?_;simp -implicitDefEqProofs (disch:=omega) only[go_sem];refine aB (bT _) ?_;simp -implicitDefEqProofs (disch:=omega) only[go_sem];refine aB (dY t.cO (by omega)) ?_;simp -implicitDefEqProofs (disch:=omega) only[go_sem];refine aB (dY [xg] (by simp)) ?_;simp -implicitDefEqProofs (disch:=omega) only[go_sem];have hE:=fun cK Ω=>jT (T 0) (hTr 0) (by have:=iG 0;omega) cK Ω;simp only[hT0] at hE;refine bZ [false] rfl (hE _ _) ?_;simp -implicitDefEqProofs (disch:=omega) only[go_sem]
 refine bO (ι:=Nat) zmx rfl [1,2,4,5] (fun i=>[.c (.ptr (0,0) 0),.c (.ptr (0,1) 0),.c (.ptr (0,5) 0),.c (.d (.i .i64 i))])
  (fun i=>[.box [.d (.s t.fName),.d (.sl (t.cO.map encS)),.d (.b true),.d (.b false),.d (.sl (t.aK.map aI.enc))],.box [.d (.s []),.bI []],.tok 1 [[.s xg]],.box [.d (.s []),.bS (0,4) (T 0)],.tok 2 (T i),.box [.d (.s []),.bS (0,4) (T i)]]::S)
  (fun i=>i<=t.aK.length) (fun i=>t.aK.length-i) 0 rfl (by simp only[hT0]<;>(try rfl)) (Nat.zero_le _) ?_
 intro i hi;have hl:=iG i;simp -implicitDefEqProofs (disch:=omega) only[go_sem]
 with_reducible refine aD (fun hb=> ?_) (fun hb=> ?_)<;>have h:=hb<;>(try simp only[wf_preprocess] at h)<;>simp -implicitDefEqProofs (disch:=omega) only[go_sem,hb]<;>(repeat(with_reducible refine And.intro ?_ ?_;focus first|omega|rfl|assumption|exact⟨_,rfl,rfl⟩|(simp;omega)|(simp;done)))
 ·have hi':i<t.aK.length:=by omega
  have hm:=List.getElem_mem hi';have hcz:=Ii hm;have hce:=aI.sum t.aK[i];rw[eB] at hce;obtain⟨q1,q2,q3⟩:=vk (hso _ hm);have hst:=hTs i hi'
  (repeat(with_reducible refine And.intro ?_ ?_;focus first|omega|rfl|assumption|exact⟨_,rfl,rfl⟩|(simp;omega)|(simp;done)))
  refine aB (bT _) ?_;simp -implicitDefEqProofs (disch:=omega) only[go_sem];refine aB (Aa t.aK[i].bP (by omega) (fun u hu=>by have:=Ig hu;omega)) ?_;simp -implicitDefEqProofs (disch:=omega) only[go_sem];refine aB (ku t.aK[i].cu (by omega)) ?_;simp -implicitDefEqProofs (disch:=omega) only[go_sem];refine bZ [false] rfl (jT _ (by simp) (by simp) _ _) ?_;simp -implicitDefEqProofs (disch:=omega) only[go_sem]
  with_reducible refine aD (fun hb=> ?_) (fun hb=> ?_)<;>have h:=hb<;>(try simp only[wf_preprocess] at h)<;>simp -implicitDefEqProofs (disch:=omega) only[go_sem,hb]<;>(repeat(with_reducible refine And.intro ?_ ?_;focus first|omega|rfl|assumption|exact⟨_,rfl,rfl⟩|(simp;omega)|(simp;done)))
  ·rw[Ij h] at hst;simp only[List.map_cons,List.map_nil,eY,jl,au.aj (dR t.aK[i].cu),au.aj (fQ t.aK[i].fBody)] at hst;refine aB (dY t.aK[i].aS (by omega)) ?_;simp -implicitDefEqProofs (disch:=omega) only[go_sem];refine aB (rA t.aK[i].fBody (q3 h) (by omega)) ?_;simp -implicitDefEqProofs (disch:=omega) only[go_sem]
   (repeat(with_reducible refine And.intro ?_ ?_;focus first|omega|rfl|assumption|exact⟨_,rfl,rfl⟩|(simp;omega)|(simp;done)))
   rw[hst];exact dZ 6 (by decide) (i+1) (by omega) rfl rfl rfl rfl (by omega)
  ·rw[Ik h] at hst;simp only[List.map_cons,List.map_nil,eY,jl,au.aj (dR t.aK[i].cu)] at hst
   (repeat(with_reducible refine And.intro ?_ ?_;focus first|omega|rfl|assumption|exact⟨_,rfl,rfl⟩|(simp;omega)|(simp;done)))
   rw[hst];exact dZ 6 (by decide) (i+1) (by omega) rfl rfl rfl rfl (by omega)
 ·have hi':i=t.aK.length:=by omega
  subst hi';rw[hTe];refine aB (pQ true (vN t) (by omega)) ?_;simp -implicitDefEqProofs (disch:=omega) only[go_sem];rfl
theorem ad8(t:bF)(hv:fT t=true)(hsz:t.sz<=1048576)(ha:t.lV=false)(hs:t.bW=true):bg prog 254 [t.v] (Bg (vN t)).v:=fun S=>by
 have hdz:=bF.sum t;rw[eB] at hdz;obtain⟨hso,_⟩:=mE hv;have hz:=Nb hv
 have hfl:mX t=[je]:=by unfold mX;rw[ha,hs];rfl
 obtain⟨T,hT⟩:∃T:Nat->List (List D),T=fun i=>(oG t++(t.aK.map tL).take i).map au.enc:=⟨_,rfl⟩
 have hT0:T 0=[[.s qO,.sl []],[.s t.fName,.sl []],[.s [],.sl ((dn t.cO).map au.enc)],[.s [],.sl ((dn [je]).map au.enc)]]:=by
  rw[hT];simp only[List.take_zero,List.append_nil,oG,hfl,List.map_cons,List.map_nil,eY,jl]
 have iG:∀i,(T i).length<=i+4:=fun i=>by
  rw[hT];simp only[List.length_map,List.length_append];have:=List.length_take_le i (t.aK.map tL);simp[oG];omega
 have hTs:∀i (hi:i<t.aK.length),T i++[[.s [],.sl ((tL t.aK[i]).aA.map au.enc)]]=T (i+1):=fun i hi=>by
  have:=iP (base:=oG t) (l:=t.aK.map tL) (i:=i) (by rw[List.length_map];exact hi);rw[List.getElem_map,JL] at this;rw[hT];exact this
 have hTr:∀i,∀r∈T i,r.length=2:=fun i=>by rw[hT];exact jk
 have hTe:T t.aK.length=(vN t).aA.map au.enc:=by
  rw[hT];simp only
  rw[List.take_of_length_le (by simp)];rfl
 clear hT;refine zcx [.cell 2 202] func254 ntmps254 ?_;simp -implicitDefEqProofs (disch:=omega) only[go_sem];refine aB (nI t (by omega)) ?_;simp -implicitDefEqProofs (disch:=omega) only[go_sem,hv,ha,hs]
 (repeat(with_reducible refine And.intro ?_ ?_;focus first|omega|rfl|assumption|exact⟨_,rfl,rfl⟩|(simp;omega)|(simp;done)))
 refine aB (bT _) ?_;simp -implicitDefEqProofs (disch:=omega) only[go_sem];refine aB (bT _) ?_;simp -implicitDefEqProofs (disch:=omega) only[go_sem];refine aB (dY t.cO (by omega)) ?_;simp -implicitDefEqProofs (disch:=omega) only[go_sem];refine aB (dY [je] (by simp)) ?_;simp -implicitDefEqProofs (disch:=omega) only[go_sem];have hE:=fun cK Ω=>jT (T 0) (hTr 0) (by have:=iG 0;omega) cK Ω;simp only[hT0] at hE;refine bZ [false] rfl (hE _ _) ?_;simp -implicitDefEqProofs (disch:=omega) only[go_sem]
 refine bO (ι:=Nat) zmx rfl [1,2,4,5] (fun i=>[.c (.ptr (0,0) 0),.c (.ptr (0,1) 0),.c (.ptr (0,5) 0),.c (.d (.i .i64 i))])
  (fun i=>[.box [.d (.s t.fName),.d (.sl (t.cO.map encS)),.d (.b false),.d (.b true),.d (.sl (t.aK.map aI.enc))],.box [.d (.s []),.bI []],.tok 1 [[.s je]],.box [.d (.s []),.bS (0,4) (T 0)],.tok 2 (T i),.box [.d (.s []),.bS (0,4) (T i)]]::S)
  (fun i=>i<=t.aK.length) (fun i=>t.aK.length-i) 0 rfl (by simp only[hT0]<;>(try rfl)) (Nat.zero_le _) ?_
 intro i hi;have hl:=iG i;simp -implicitDefEqProofs (disch:=omega) only[go_sem]
 with_reducible refine aD (fun hb=> ?_) (fun hb=> ?_)<;>have h:=hb<;>(try simp only[wf_preprocess] at h)<;>simp -implicitDefEqProofs (disch:=omega) only[go_sem,hb]<;>(repeat(with_reducible refine And.intro ?_ ?_;focus first|omega|rfl|assumption|exact⟨_,rfl,rfl⟩|(simp;omega)|(simp;done)))
 ·have hi':i<t.aK.length:=by omega
  have hm:=List.getElem_mem hi';have hcz:=Ii hm;have hce:=aI.sum t.aK[i];rw[eB] at hce;obtain⟨q1,q2,q3⟩:=vk (hso _ hm);have hst:=hTs i hi'
  (repeat(with_reducible refine And.intro ?_ ?_;focus first|omega|rfl|assumption|exact⟨_,rfl,rfl⟩|(simp;omega)|(simp;done)))
  refine aB (bT _) ?_;simp -implicitDefEqProofs (disch:=omega) only[go_sem];refine aB (Aa t.aK[i].bP (by omega) (fun u hu=>by have:=Ig hu;omega)) ?_;simp -implicitDefEqProofs (disch:=omega) only[go_sem];refine aB (ku t.aK[i].cu (by omega)) ?_;simp -implicitDefEqProofs (disch:=omega) only[go_sem];refine bZ [false] rfl (jT _ (by simp) (by simp) _ _) ?_;simp -implicitDefEqProofs (disch:=omega) only[go_sem]
  with_reducible refine aD (fun hb=> ?_) (fun hb=> ?_)<;>have h:=hb<;>(try simp only[wf_preprocess] at h)<;>simp -implicitDefEqProofs (disch:=omega) only[go_sem,hb]<;>(repeat(with_reducible refine And.intro ?_ ?_;focus first|omega|rfl|assumption|exact⟨_,rfl,rfl⟩|(simp;omega)|(simp;done)))
  ·rw[Ij h] at hst;simp only[List.map_cons,List.map_nil,eY,jl,au.aj (dR t.aK[i].cu),au.aj (fQ t.aK[i].fBody)] at hst;refine aB (dY t.aK[i].aS (by omega)) ?_;simp -implicitDefEqProofs (disch:=omega) only[go_sem];refine aB (rA t.aK[i].fBody (q3 h) (by omega)) ?_;simp -implicitDefEqProofs (disch:=omega) only[go_sem]
   (repeat(with_reducible refine And.intro ?_ ?_;focus first|omega|rfl|assumption|exact⟨_,rfl,rfl⟩|(simp;omega)|(simp;done)))
   rw[hst];exact dZ 6 (by decide) (i+1) (by omega) rfl rfl rfl rfl (by omega)
  ·rw[Ik h] at hst;simp only[List.map_cons,List.map_nil,eY,jl,au.aj (dR t.aK[i].cu)] at hst
   (repeat(with_reducible refine And.intro ?_ ?_;focus first|omega|rfl|assumption|exact⟨_,rfl,rfl⟩|(simp;omega)|(simp;done)))
   rw[hst];exact dZ 6 (by decide) (i+1) (by omega) rfl rfl rfl rfl (by omega)
 ·have hi':i=t.aK.length:=by omega
  subst hi';rw[hTe];refine aB (pQ true (vN t) (by omega)) ?_;simp -implicitDefEqProofs (disch:=omega) only[go_sem];rfl
theorem ad9(t:bF)(hv:fT t=true)(hsz:t.sz<=1048576)(ha:t.lV=false)(hs:t.bW=false):bg prog 254 [t.v] (Bg (vN t)).v:=fun S=>by
 have hdz:=bF.sum t;rw[eB] at hdz;obtain⟨hso,_⟩:=mE hv;have hz:=Nb hv
 have hfl:mX t=[]:=by unfold mX;rw[ha,hs];rfl
 obtain⟨T,hT⟩:∃T:Nat->List (List D),T=fun i=>(oG t++(t.aK.map tL).take i).map au.enc:=⟨_,rfl⟩
 have hT0:T 0=[[.s qO,.sl []],[.s t.fName,.sl []],[.s [],.sl ((dn t.cO).map au.enc)],[.s [],.sl ((dn []).map au.enc)]]:=by
  rw[hT];simp only[List.take_zero,List.append_nil,oG,hfl,List.map_cons,List.map_nil,eY,jl]
 have iG:∀i,(T i).length<=i+4:=fun i=>by
  rw[hT];simp only[List.length_map,List.length_append];have:=List.length_take_le i (t.aK.map tL);simp[oG];omega
 have hTs:∀i (hi:i<t.aK.length),T i++[[.s [],.sl ((tL t.aK[i]).aA.map au.enc)]]=T (i+1):=fun i hi=>by
  have:=iP (base:=oG t) (l:=t.aK.map tL) (i:=i) (by rw[List.length_map];exact hi);rw[List.getElem_map,JL] at this;rw[hT];exact this
 have hTr:∀i,∀r∈T i,r.length=2:=fun i=>by rw[hT];exact jk
 have hTe:T t.aK.length=(vN t).aA.map au.enc:=by
  rw[hT];simp only
  rw[List.take_of_length_le (by simp)];rfl
 clear hT;refine zcx [.cell 2 202] func254 ntmps254 ?_;simp -implicitDefEqProofs (disch:=omega) only[go_sem];refine aB (nI t (by omega)) ?_;simp -implicitDefEqProofs (disch:=omega) only[go_sem,hv,ha,hs]
 (repeat(with_reducible refine And.intro ?_ ?_;focus first|omega|rfl|assumption|exact⟨_,rfl,rfl⟩|(simp;omega)|(simp;done)))
 refine aB (bT _) ?_;simp -implicitDefEqProofs (disch:=omega) only[go_sem];refine aB (bT _) ?_;simp -implicitDefEqProofs (disch:=omega) only[go_sem];refine aB (dY t.cO (by omega)) ?_;simp -implicitDefEqProofs (disch:=omega) only[go_sem];refine aB (dY [] (by simp)) ?_;simp -implicitDefEqProofs (disch:=omega) only[go_sem];have hE:=fun cK Ω=>jT (T 0) (hTr 0) (by have:=iG 0;omega) cK Ω;simp only[hT0] at hE;refine bZ [false] rfl (hE _ _) ?_;simp -implicitDefEqProofs (disch:=omega) only[go_sem]
 refine bO (ι:=Nat) zmx rfl [1,2,4,5] (fun i=>[.c (.ptr (0,0) 0),.c (.ptr (0,1) 0),.c (.ptr (0,4) 0),.c (.d (.i .i64 i))])
  (fun i=>[.box [.d (.s t.fName),.d (.sl (t.cO.map encS)),.d (.b false),.d (.b false),.d (.sl (t.aK.map aI.enc))],.box [.d (.s []),.bI []],.box [.d (.s []),.bS (0,3) (T 0)],.tok 2 (T i),.box [.d (.s []),.bS (0,3) (T i)]]::S)
  (fun i=>i<=t.aK.length) (fun i=>t.aK.length-i) 0 rfl (by simp only[hT0]<;>(try rfl)) (Nat.zero_le _) ?_
 intro i hi;have hl:=iG i;simp -implicitDefEqProofs (disch:=omega) only[go_sem]
 with_reducible refine aD (fun hb=> ?_) (fun hb=> ?_)<;>have h:=hb<;>(try simp only[wf_preprocess] at h)<;>simp -implicitDefEqProofs (disch:=omega) only[go_sem,hb]<;>(repeat(with_reducible refine And.intro ?_ ?_;focus first|omega|rfl|assumption|exact⟨_,rfl,rfl⟩|(simp;omega)|(simp;done)))
 ·have hi':i<t.aK.length:=by omega
  have hm:=List.getElem_mem hi';have hcz:=Ii hm;have hce:=aI.sum t.aK[i];rw[eB] at hce;obtain⟨q1,q2,q3⟩:=vk (hso _ hm);have hst:=hTs i hi'
  (repeat(with_reducible refine And.intro ?_ ?_;focus first|omega|rfl|assumption|exact⟨_,rfl,rfl⟩|(simp;omega)|(simp;done)))
  refine aB (bT _) ?_;simp -implicitDefEqProofs (disch:=omega) only[go_sem];refine aB (Aa t.aK[i].bP (by omega) (fun u hu=>by have:=Ig hu;omega)) ?_;simp -implicitDefEqProofs (disch:=omega) only[go_sem];refine aB (ku t.aK[i].cu (by omega)) ?_;simp -implicitDefEqProofs (disch:=omega) only[go_sem];refine bZ [false] rfl (jT _ (by simp) (by simp) _ _) ?_;simp -implicitDefEqProofs (disch:=omega) only[go_sem]
  with_reducible refine aD (fun hb=> ?_) (fun hb=> ?_)<;>have h:=hb<;>(try simp only[wf_preprocess] at h)<;>simp -implicitDefEqProofs (disch:=omega) only[go_sem,hb]<;>(repeat(with_reducible refine And.intro ?_ ?_;focus first|omega|rfl|assumption|exact⟨_,rfl,rfl⟩|(simp;omega)|(simp;done)))
  ·rw[Ij h] at hst;simp only[List.map_cons,List.map_nil,eY,jl,au.aj (dR t.aK[i].cu),au.aj (fQ t.aK[i].fBody)] at hst;refine aB (dY t.aK[i].aS (by omega)) ?_;simp -implicitDefEqProofs (disch:=omega) only[go_sem];refine aB (rA t.aK[i].fBody (q3 h) (by omega)) ?_;simp -implicitDefEqProofs (disch:=omega) only[go_sem]
   (repeat(with_reducible refine And.intro ?_ ?_;focus first|omega|rfl|assumption|exact⟨_,rfl,rfl⟩|(simp;omega)|(simp;done)))
   rw[hst];exact dZ 5 (by decide) (i+1) (by omega) rfl rfl rfl rfl (by omega)
  ·rw[Ik h] at hst;simp only[List.map_cons,List.map_nil,eY,jl,au.aj (dR t.aK[i].cu)] at hst
   (repeat(with_reducible refine And.intro ?_ ?_;focus first|omega|rfl|assumption|exact⟨_,rfl,rfl⟩|(simp;omega)|(simp;done)))
   rw[hst];exact dZ 5 (by decide) (i+1) (by omega) rfl rfl rfl rfl (by omega)
 ·have hi':i=t.aK.length:=by omega
  subst hi';rw[hTe];refine aB (pQ true (vN t) (by omega)) ?_;simp -implicitDefEqProofs (disch:=omega) only[go_sem];rfl
theorem aaR(t:bF)(hsz:t.sz<=1048576):bg prog 254 [t.v] (Ls t).v:=by
 unfold Ls
 cases hv:fT t with
 |false=>
  rw[uw];refine bg.less (fun S=> ?_) (DC [] []);refine zcx [.cell 2 202] func254 ntmps254 ?_;simp -implicitDefEqProofs (disch:=omega) only[go_sem];refine aB (nI t (by omega)) ?_;simp -implicitDefEqProofs (disch:=omega) only[go_sem,hv]
 |true=>
  rw[uw];have hb:=(mE hv).2
  cases ha:t.lV with
  |true=>
   cases hs:t.bW with
   |true=>exact absurd ⟨ha,hs⟩ hb
   |false=>exact ad7 t hv hsz ha hs
  |false=>
   cases hs:t.bW with
   |true=>exact ad8 t hv hsz ha hs
   |false=>exact ad9 t hv hsz ha hs
end Go.Ab