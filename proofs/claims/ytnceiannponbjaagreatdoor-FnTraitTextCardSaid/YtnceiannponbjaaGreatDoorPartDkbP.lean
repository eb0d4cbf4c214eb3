/-
  SEVERAL TEXTS IN ONE (merged by program): contracts and models, each with its own heading.
-/
import Derived.Test.YtnceiannponbjaaGreatDoorPartDkbO
open Go.Proofs Go.Proofs.Tryz
set_option linter.unusedSimpArgs false
set_option linter.unusedVariables false
set_option maxRecDepth 4000
namespace Go.Ab
noncomputable def jF(t:aU):List (List UInt8):=t.aC.map aF.fName
noncomputable def rU(t:aU):Prop:=t.jR=true/\(t.eX=true\/0<t.aC.length\/0<t.aV.length)
noncomputable def cZ(t:aU):Bool:=
 validName t.fName&&(dec (t.aV.length<=4)&&(jv t.aV&&(dec (t.aC.length<=6)&&(!dec (rU t)&&(t.aC.all fM&&dec (jF t).Nodup)))))
theorem aU.sum(x:aU):x.fName.length+(x.aV.length+bC (x.aV.map encS))+(x.aC.length+bC (x.aC.map aF.enc))<=x.sz:=by
 simp only[aU.sz,aU.aB,bN,bR,D.sz,List.length_map];omega
theorem um{xs:List aF}{t:aF}(h:t∈xs):t.sz<=bC (xs.map aF.enc):=fI (List.mem_map_of_mem h)
theorem VF{g:aF}(h:fM g=true):validName g.fName=true:=by
 unfold fM at h;rw[Bool.and_eq_true] at h;exact h.1
theorem Rw{t:aU}(h:t.aC.all fM=true):(jF t).all validName=true:=by
 unfold jF;rw[List.all_map];refine List.all_eq_true.2 fun g hg=>VF (List.all_eq_true.1 h g hg)
theorem oJ(t:aU)(hsz:t.sz<=4194304):aG prog 19 [t.v] (.c (.d (.b (cZ t)))):=fun S=>by
 have hs:=aU.sum t
 have hV:∀s∈t.aV,s.length<=4194304:=fun s h=>by have:=Bf h;omega
 have hG:∀g∈t.aC,g.sz<=4194304:=fun g h=>by have:=um h;omega
 refine(show Hold ((validName t.fName=true/\t.aV.length<=4/\jv t.aV=true/\t.aC.length<=6/\¬rU t)-> ?T)->_ from fun tail=> ?main) ?tp
 case' main=>
  refine zcx [.tmp 2] func19 ntmps19 ?_;simp -implicitDefEqProofs (disch:=omega) only[go_sem];refine au (jY t.fName (by omega)) ?_;simp -implicitDefEqProofs (disch:=omega) only[go_sem]<;>(repeat(with_reducible refine And.intro ?_ ?_;focus first|omega|rfl|assumption|exact⟨_,rfl,rfl⟩|(simp;omega)|(simp;done)))
  with_reducible refine aA (fun hb=> ?_) (fun hb=> ?_)<;>have h:=hb<;>(try simp only[wf_preprocess] at h)<;>simp -implicitDefEqProofs (disch:=omega) only[go_sem,hb]<;>(repeat(with_reducible refine And.intro ?_ ?_;focus first|omega|rfl|assumption|exact⟨_,rfl,rfl⟩|(simp;omega)|(simp;done)))
  ·exact aI (by unfold cZ;rw[h];rfl)
  have h1:=h
  with_reducible refine aA (fun hb=> ?_) (fun hb=> ?_)<;>have h:=hb<;>(try simp only[wf_preprocess] at h)<;>simp -implicitDefEqProofs (disch:=omega) only[go_sem,hb]<;>(repeat(with_reducible refine And.intro ?_ ?_;focus first|omega|rfl|assumption|exact⟨_,rfl,rfl⟩|(simp;omega)|(simp;done)))
  ·exact aI (by unfold cZ;rw[aO (show ¬t.aV.length<=4 by omega)];simp)
  have h2:=h
  (repeat(with_reducible refine And.intro ?_ ?_;focus first|omega|rfl|assumption|exact⟨_,rfl,rfl⟩|(simp;omega)|(simp;done)))
  refine au (Ap t.aV (by omega) hV) ?_;simp -implicitDefEqProofs (disch:=omega) only[go_sem]<;>(repeat(with_reducible refine And.intro ?_ ?_;focus first|omega|rfl|assumption|exact⟨_,rfl,rfl⟩|(simp;omega)|(simp;done)))
  with_reducible refine aA (fun hb=> ?_) (fun hb=> ?_)<;>have h:=hb<;>(try simp only[wf_preprocess] at h)<;>simp -implicitDefEqProofs (disch:=omega) only[go_sem,hb]<;>(repeat(with_reducible refine And.intro ?_ ?_;focus first|omega|rfl|assumption|exact⟨_,rfl,rfl⟩|(simp;omega)|(simp;done)))
  ·exact aI (by unfold cZ;rw[h];simp)
  have h3:=h
  with_reducible refine aA (fun hb=> ?_) (fun hb=> ?_)<;>have h:=hb<;>(try simp only[wf_preprocess] at h)<;>simp -implicitDefEqProofs (disch:=omega) only[go_sem,hb]<;>(repeat(with_reducible refine And.intro ?_ ?_;focus first|omega|rfl|assumption|exact⟨_,rfl,rfl⟩|(simp;omega)|(simp;done)))
  ·exact aI (by unfold cZ;rw[aO (show ¬t.aC.length<=6 by omega)];simp)
  have h4:=h;have bad:rU t->V.c (.d (.b false))=V.c (.d (.b (cZ t))):=fun h=>aI (by unfold cZ;rw[bJ h];simp);have pre:¬rU t->(validName t.fName=true/\t.aV.length<=4/\jv t.aV=true/\t.aC.length<=6/\¬rU t):=fun h=>⟨h1,by omega,h3,by omega,h⟩
  repeat' (first|with_reducible refine aA (fun hb=> ?_) (fun hb=> ?_)<;>have h:=hb<;>(try simp only[wf_preprocess] at h)<;>simp -implicitDefEqProofs (disch:=omega) only[go_sem,hb]<;>(repeat(with_reducible refine And.intro ?_ ?_;focus first|omega|rfl|assumption|exact⟨_,rfl,rfl⟩|(simp;omega)|(simp;done))))
  all_goals first
   |(refine bad ⟨by assumption,?_⟩;first|exact .inl (by assumption)|exact .inr (.inl (by omega))|exact .inr (.inr (by omega)))
   |skip
  all_goals
   have na:¬rU t:=fun x=>by
    obtain⟨x1,x2⟩:=x
    rcases x2 with x2|x2|x2<;>first|omega|simp_all
   (repeat(with_reducible refine And.intro ?_ ?_;focus first|omega|rfl|assumption|exact⟨_,rfl,rfl⟩|(simp;omega)|(simp;done)))
   refine wM 3 1 [] rfl (by simp) ?_;refine Ce (st':=[.box (t.enc.map .d),.tok 1 []]::S) [3,48,49,50] [.c (.bG (0,1) []),.c (.d (.sl (t.aC.map aF.enc))),.c (.d (.i .i64 t.aC.length)),.c (.d (.i .i64 0))] ?_ ?_ ?_
   ·rfl
   ·first|(simp -implicitDefEqProofs (disch:=omega) only[go_sem];done)|(simp -implicitDefEqProofs (disch:=omega) only[go_sem];simp[*])
   ·exact tail.out (pre na)
 refine⟨fun hp=> ?_⟩;obtain⟨h1,h2,h3,h4,h5⟩:=hp
 have bad:∀i,∀hi:i<t.aC.length,fM t.aC[i]=false->cZ t=false:=fun i hi h=>by
  have:t.aC.all fM=false:=Bool.eq_false_iff.2 fun hx=>by
   rw[List.all_eq_true.1 hx _ (List.getElem_mem hi)] at h;cases h
  unfold cZ
  rw[this];simp
 refine aZ (ι:=Nat×List (List UInt8)) zmx rfl [3,48,49,50] (fun y=>[.c (.bG (0,1) (y.2.map encS)),.c (.d (.sl (t.aC.map aF.enc))),.c (.d (.i .i64 t.aC.length)),.c (.d (.i .i64 y.1))]) (fun y=>[.box (t.enc.map .d),.tok 1 (y.2.map encS)]::S)
  (fun y=>y.1<=t.aC.length/\y.2=(jF t).take y.1/\∀j,∀hj:j<t.aC.length,j<y.1->fM t.aC[j]=true) (fun y=>t.aC.length-y.1) (0,[]) rfl ?_ ⟨Nat.zero_le _,rfl,fun j _ h=>by simp only at h;omega⟩ ?_
 ·simp -implicitDefEqProofs (disch:=omega) only[go_sem]
 rintro⟨i,names⟩ ⟨p1,p2,p3⟩;simp only at p1 p2 p3
 have pl:names.length<=t.aC.length:=by rw[p2];simp[jF];omega
 simp -implicitDefEqProofs (disch:=omega) only[go_sem]
 with_reducible refine aA (fun hb=> ?_) (fun hb=> ?_)<;>have h:=hb<;>(try simp only[wf_preprocess] at h)<;>simp -implicitDefEqProofs (disch:=omega) only[go_sem,hb]<;>(repeat(with_reducible refine And.intro ?_ ?_;focus first|omega|rfl|assumption|exact⟨_,rfl,rfl⟩|(simp;omega)|(simp;done)))
 ·have hi:i<t.aC.length:=by omega
  (repeat(with_reducible refine And.intro ?_ ?_;focus first|omega|rfl|assumption|exact⟨_,rfl,rfl⟩|(simp;omega)|(simp;done)))
  refine au (KL t.aC[i] (hG _ (List.getElem_mem hi))) ?_;simp -implicitDefEqProofs (disch:=omega) only[go_sem]<;>(repeat(with_reducible refine And.intro ?_ ?_;focus first|omega|rfl|assumption|exact⟨_,rfl,rfl⟩|(simp;omega)|(simp;done)))
  with_reducible refine aA (fun hb=> ?_) (fun hb=> ?_)<;>have h:=hb<;>(try simp only[wf_preprocess] at h)<;>simp -implicitDefEqProofs (disch:=omega) only[go_sem,hb]<;>(repeat(with_reducible refine And.intro ?_ ?_;focus first|omega|rfl|assumption|exact⟨_,rfl,rfl⟩|(simp;omega)|(simp;done)))
  ·rw[bad i hi h]
  have k2:=h
  (repeat(with_reducible refine And.intro ?_ ?_;focus first|omega|rfl|assumption|exact⟨_,rfl,rfl⟩|(simp;omega)|(simp;done)))
  rw[show List.map encS names++[[D.s t.aC[i].fName]]=List.map encS (names++[t.aC[i].fName]) by simp[encS]]
  exact dD 2 (by decide) (i+1,names++[t.aC[i].fName]) (by simp only;omega) rfl rfl rfl rfl ⟨by simp only;omega,by simp only;rw[p2,tX (by simpa [jF] using hi)];simp[jF],fun j hj hji=>by
   simp only at hji;by_cases e:j=i
   ·subst e;exact k2
   ·exact p3 j hj (by omega)⟩
 have hi:i=t.aC.length:=by omega
 have hn:names=jF t:=by rw[p2,List.take_of_length_le (by simp[jF];omega)]
 have hall:t.aC.all fM=true:=List.all_eq_true.2 fun c hc=>by
  obtain⟨j,hj,e⟩:=List.getElem_of_mem hc;rw[<-e];exact p3 j hj (by omega)
 refine au (zS names (by omega)) ?_;simp -implicitDefEqProofs (disch:=omega) only[go_sem]<;>(repeat(with_reducible refine And.intro ?_ ?_;focus first|omega|rfl|assumption|exact⟨_,rfl,rfl⟩|(simp;omega)|(simp;done)));exact aI (by unfold cZ;rw[h1,h3,hall,<-hn,bJ h2,bJ h4,aO h5];simp)
theorem mK(t:aU)(hsz:t.sz<=4194304):aG prog 20 [t.v] (.c (.d (.b (cZ t)))):=fun S=>by
 have hs:=aU.sum t
 have hV:∀s∈t.aV,s.length<=4194304:=fun s h=>by have:=Bf h;omega
 have hG:∀g∈t.aC,g.sz<=4194304:=fun g h=>by have:=um h;omega
 have bad:∀i,∀hi:i<t.aC.length,fM t.aC[i]=false->cZ t=false:=fun i hi h=>by
  have:t.aC.all fM=false:=Bool.eq_false_iff.2 fun hx=>by
   rw[List.all_eq_true.1 hx _ (List.getElem_mem hi)] at h;cases h
  unfold cZ
  rw[this];simp
 have aiT:rU t->V.c (.d (.b false))=V.c (.d (.b (cZ t))):=fun h=>aI (by unfold cZ;rw[bJ h];simp);refine zcx [.tmp 2] func20 ntmps20 ?_;simp -implicitDefEqProofs (disch:=omega) only[go_sem]
 (repeat(with_reducible refine And.intro ?_ ?_;focus first|omega|rfl|assumption|exact⟨_,rfl,rfl⟩|(simp;omega)|(simp;done)))
 refine wM 3 1 [] rfl (by simp) ?_
 refine aZ (ι:=Nat×List (List UInt8)) zmx rfl [1,3,4] (fun y=>[.c (.ptr (0,0) 0),.c (.bG (0,1) (y.2.map encS)),.c (.d (.i .i64 y.1))]) (fun y=>[.box (t.enc.map .d),.tok 1 (y.2.map encS)]::S)
  (fun y=>y.1<=t.aC.length/\y.2=(jF t).take y.1/\∀j,∀hj:j<t.aC.length,j<y.1->fM t.aC[j]=true) (fun y=>t.aC.length-y.1) (0,[]) rfl ?_ ⟨Nat.zero_le _,rfl,fun j _ h=>by simp only at h;omega⟩ ?_
 ·simp -implicitDefEqProofs (disch:=omega) only[go_sem]
 rintro⟨i,names⟩ ⟨p1,p2,p3⟩;simp only at p1 p2 p3
 have pl:names.length<=t.aC.length:=by rw[p2];simp[jF];omega
 simp -implicitDefEqProofs (disch:=omega) only[go_sem]
 with_reducible refine aA (fun hb=> ?_) (fun hb=> ?_)<;>have h:=hb<;>(try simp only[wf_preprocess] at h)<;>simp -implicitDefEqProofs (disch:=omega) only[go_sem,hb]<;>(repeat(with_reducible refine And.intro ?_ ?_;focus first|omega|rfl|assumption|exact⟨_,rfl,rfl⟩|(simp;omega)|(simp;done)))
 ·have hi:i<t.aC.length:=by omega
  (repeat(with_reducible refine And.intro ?_ ?_;focus first|omega|rfl|assumption|exact⟨_,rfl,rfl⟩|(simp;omega)|(simp;done)))
  refine au (YM t.aC[i] (hG _ (List.getElem_mem hi))) ?_;simp -implicitDefEqProofs (disch:=omega) only[go_sem]<;>(repeat(with_reducible refine And.intro ?_ ?_;focus first|omega|rfl|assumption|exact⟨_,rfl,rfl⟩|(simp;omega)|(simp;done)))
  with_reducible refine aA (fun hb=> ?_) (fun hb=> ?_)<;>have h:=hb<;>(try simp only[wf_preprocess] at h)<;>simp -implicitDefEqProofs (disch:=omega) only[go_sem,hb]<;>(repeat(with_reducible refine And.intro ?_ ?_;focus first|omega|rfl|assumption|exact⟨_,rfl,rfl⟩|(simp;omega)|(simp;done)))
  ·rw[bad i hi h]
  have k2:=h
  (repeat(with_reducible refine And.intro ?_ ?_;focus first|omega|rfl|assumption|exact⟨_,rfl,rfl⟩|(simp;omega)|(simp;done)))
  rw[show List.map encS names++[[D.s t.aC[i].fName]]=List.map encS (names++[t.aC[i].fName]) by simp[encS]]
  exact cK (i+1,names++[t.aC[i].fName]) (by simp only;omega) rfl rfl ⟨by simp only;omega,by simp only;rw[p2,tX (by simpa [jF] using hi)];simp[jF],fun j hj hji=>by
   simp only at hji;by_cases e:j=i
   ·subst e;exact k2
   ·exact p3 j hj (by omega)⟩
 have hi:i=t.aC.length:=by omega
 have hn:names=jF t:=by rw[p2,List.take_of_length_le (by simp[jF];omega)]
 have hall:t.aC.all fM=true:=List.all_eq_true.2 fun c hc=>by
  obtain⟨j,hj,e⟩:=List.getElem_of_mem hc;rw[<-e];exact p3 j hj (by omega)
 have Ie:=Rw hall
 have hnl:∀s∈names,s.length<=4194304:=fun s hm=>by
  rw[hn] at hm;obtain⟨g,hg,e⟩:=List.mem_map.1 hm;have:=hG g hg;have:=aF.sum g;rw[<-e];omega
 have hlen:names.length=t.aC.length:=by rw[hn];simp[jF]
 clear bad p2 p3
 repeat' (first|with_reducible refine aA (fun hb=> ?_) (fun hb=> ?_)<;>have h:=hb<;>(try simp only[wf_preprocess] at h)<;>simp -implicitDefEqProofs (disch:=omega) only[go_sem,hb]<;>(repeat(with_reducible refine And.intro ?_ ?_;focus first|omega|rfl|assumption|exact⟨_,rfl,rfl⟩|(simp;omega)|(simp;done))))
 all_goals first
  |(refine aiT ⟨by assumption,?_⟩;first|exact .inl (by assumption)|exact .inr (.inl (by omega))|exact .inr (.inr (by omega)))
  |skip
 all_goals
  have na:¬rU t:=fun x=>by
   obtain⟨x1,x2⟩:=x
   rcases x2 with x2|x2|x2<;>first|omega|simp_all
  (repeat(with_reducible refine And.intro ?_ ?_;focus first|omega|rfl|assumption|exact⟨_,rfl,rfl⟩|(simp;omega)|(simp;done)))
  refine au (jZ t.fName (by omega)) ?_;simp -implicitDefEqProofs (disch:=omega) only[go_sem]
  with_reducible refine aA (fun hb=> ?_) (fun hb=> ?_)<;>have h:=hb<;>(try simp only[wf_preprocess] at h)<;>simp -implicitDefEqProofs (disch:=omega) only[go_sem,hb]<;>(repeat(with_reducible refine And.intro ?_ ?_;focus first|omega|rfl|assumption|exact⟨_,rfl,rfl⟩|(simp;omega)|(simp;done)))
  ·have h1:=h
   (repeat(with_reducible refine And.intro ?_ ?_;focus first|omega|rfl|assumption|exact⟨_,rfl,rfl⟩|(simp;omega)|(simp;done)))
   refine au (Aq t.aV 4 (by omega) hV) ?_;simp -implicitDefEqProofs (disch:=omega) only[go_sem]<;>(repeat(with_reducible refine And.intro ?_ ?_;focus first|omega|rfl|assumption|exact⟨_,rfl,rfl⟩|(simp;omega)|(simp;done)))
   with_reducible refine aA (fun hb=> ?_) (fun hb=> ?_)<;>have h:=hb<;>(try simp only[wf_preprocess] at h)<;>simp -implicitDefEqProofs (disch:=omega) only[go_sem,hb]<;>(repeat(with_reducible refine And.intro ?_ ?_;focus first|omega|rfl|assumption|exact⟨_,rfl,rfl⟩|(simp;omega)|(simp;done)))
   ·have h2:=h;rw[Bool.and_eq_true] at h2;have h3:=iX h2.1;refine au (Aq names 6 (by omega) hnl) ?_;simp -implicitDefEqProofs (disch:=omega) only[go_sem]<;>(repeat(with_reducible refine And.intro ?_ ?_;focus first|omega|rfl|assumption|exact⟨_,rfl,rfl⟩|(simp;omega)|(simp;done)));refine aI ?_;unfold cZ;rw[h1,h2.2,hall,aO na,bJ (show t.aV.length<=4 by omega),hlen];unfold jv;rw[hn,Ie,Bool.and_true];simp only[Bool.true_and,Bool.not_false];congr 1;exact iT ⟨fun h=>by omega,fun h=>by omega⟩
   ·refine aI ?_;unfold cZ
    have h2:(dec (t.aV.length<=4)&&jv t.aV)=false:=by
     rw[<-h];congr 1;exact iT ⟨fun h=>by omega,fun h=>by omega⟩
    rw[<-Bool.and_assoc (dec (t.aV.length<=4)),h2];simp
  ·exact aI (by unfold cZ;rw[h];rfl)
def oK:List UInt8:=[97,117,116,111]
def sG:List UInt8:=[116,114,97,105,116]
def jk(t:aU):List (List UInt8):=(if t.jR=true then [oK] else [])++(if t.eX=true then [fT] else [])
def kU(g:aF):ah:=dA ([bn g.fName,dA (g.bL.map dK),dK g.bP]++if g.fq=true then [dA (aP g.aX),dZ g.fBody] else [])
theorem Fu(n:Nat)(es:List (List D)):Less (.c (.d (.ol n es))) (.c (.d (.sl es))):=fun w σ S β v h=>⟨uz h.1,h.2⟩
def gu(t:aU):List ah:=[bn sG,bn t.fName,dA (aP t.aV),dA (aP (jk t))]
def kV(t:aU):ah:=dA (gu t++t.aC.map kU)
noncomputable def iF(x:aU):ah:=uU (cZ x) (kV x)
theorem abO{x:aU}(h:x.sz<=1048576):(iF x).sz<=1048576:=Nat.le_trans (yF _ _) (by decide)
theorem vN{g:aF}(h:g.fq=true):(kU g).aj=[bn g.fName,dA (g.bL.map dK),dK g.bP,dA (aP g.aX),dZ g.fBody]:=by rw[kU,if_pos h];rfl
theorem vO{g:aF}(h:g.fq=false):(kU g).aj=[bn g.fName,dA (g.bL.map dK),dK g.bP]:=by rw[kU,if_neg (by rw[h];decide)];rfl
theorem vP(g:aF):(kU g).aQ=[]:=rfl
theorem ni{g:aF}(h:fM g=true):gQ g.bL=true/\formed g.bP=true/\(g.fq=true->ig g.fBody=true):=by
 unfold fM at h;simp only[Bool.and_eq_true] at h;obtain⟨_,_,h1,h2,h3⟩:=h;refine⟨GU h1,JJ h2,fun hd=> ?_⟩;rw[if_pos hd,Bool.and_eq_true] at h3;exact YN h3.2
theorem afP(g:aF)(hok:fM g=true):(kU g).sz<=48+32*g.sz:=by
 obtain⟨_,_,hb⟩:=ni hok;have h1:=Va g.bL;have h2:=O7 g.bP;have h3:=aF.sum g;rw[fJ,Ch] at h3;by_cases hd:g.fq=true
 ·have h4:=Pk g.fBody (hb hd);rw[kU,if_pos hd,qF];simp[dG,mE,qF,kC,wS];omega
 ·rw[kU,if_neg hd,qF];simp[dG,mE,qF,kC,wS];omega
theorem SC:∀l:List aF,(∀g∈l,fM g=true)->dG (l.map kU)<=48*l.length+32*bC (l.map aF.enc)
 |[],_=>by simp[dG]
 |c::l,h=>by
  have h1:=afP c (h c (List.mem_cons_self ..));have h2:=SC l fun g hg=>h g (List.mem_cons_of_mem _ hg);rw[List.map_cons,dG,List.map_cons,bC,List.length_cons];simp only[aF.sz] at h1;omega
theorem gN{t:aU}(h:cZ t=true):(∀g∈t.aC,fM g=true)/\¬(t.jR=true/\t.eX=true):=by
 unfold cZ at h;simp only[Bool.and_eq_true,Bool.not_eq_true'] at h;obtain⟨_,_,_,_,h1,h2,_⟩:=h;refine⟨fun g hg=>List.all_eq_true.1 h2 g hg,fun hh=> ?_⟩;rw[bJ (show rU t from⟨hh.1,.inl hh.2⟩)] at h1;cases h1
theorem YO(t:aU):(jk t).length<=2/\((jk t).map List.length).sum<=9:=by
 unfold jk;split<;>split<;>simp[oK,fT]
theorem Bq{t:aU}(hok:cZ t=true):(kV t).sz<=64+49*t.sz:=by
 have h1:=SC t.aC (gN hok).1;have h2:=YO t;have h3:=aU.sum t;rw[fJ] at h3;rw[kV,qF,kR,List.length_append,List.length_map];simp[gu,dG,mE,qF,kC,wS,sG];omega
theorem Az(n:Nat)(a b:List UInt8)(w v:List (List UInt8)):lx [bn a,bn b,dA (aP w),dA (aP v)] (n+1)=[[.s a,.ol (n+1) []],[.s b,.ol (n+1+1) []],[.s [],.ol (n+1+1+1) (lx (aP w) (n+1+1+1+1))],[.s [],.ol (n+1+1+1+jw (dA (aP w))) (lx (aP v) (n+1+1+1+jw (dA (aP w))+1))]]:=by
 simp only[nM,qw,kD,kP,kQ,eu,dX,mY]
theorem Rx(t:aU)(n:Nat)(hv:cZ t=true)(hsz:t.sz<=1048576)(ha:t.jR=true)(hs:t.eX=false):aG prog 70 [t.v] (.agg [.d (.s []),.d (.ol n (lx (kV t).aj (n+1)))]):=fun S=>by
 have hdz:=aU.sum t;rw[fJ] at hdz;obtain⟨hso,_⟩:=gN hv
 have hfl:jk t=[oK]:=by unfold jk;rw[ha,hs];rfl
 obtain⟨L,hL⟩:∃L:Nat->Nat,L=fun i=>n+1+iB (gu t++(t.aC.map kU).take i):=⟨_,rfl⟩;obtain⟨T,hT⟩:∃T:Nat->List (List D),T=fun i=>lx (gu t++(t.aC.map kU).take i) (n+1):=⟨_,rfl⟩
 have hT0:T 0=[[.s sG,.ol (n+1) []],[.s t.fName,.ol (n+1+1) []],[.s [],.ol (n+1+1+1) (lx (aP t.aV) (n+1+1+1+1))],[.s [],.ol (n+1+1+1+jw (dA (aP t.aV))) (lx (aP [oK]) (n+1+1+1+jw (dA (aP t.aV))+1))]]:=by
  rw[hT];simp only[List.take_zero,List.append_nil,gu,hfl];exact Az _ _ _ _ _
 have mF:∀i,(T i).length<=i+4:=fun i=>by
  rw[hT];simp only[gL,List.length_append];have:=List.length_take_le i (t.aC.map kU);simp[gu];omega
 have hTs:∀i (hi:i<t.aC.length),T i++[[.s [],.ol (L i) (lx (kU t.aC[i]).aj (L i+1))]]=T (i+1):=fun i hi=>by
  have:=Cm (base:=gu t) (l:=t.aC.map kU) (i:=i) (by rw[List.length_map];exact hi) (n+1);rw[List.getElem_map,vP] at this;rw[hT,hL];exact this
 have hTr:∀i,∀r∈T i,r.length=2:=fun i=>by rw[hT];exact kY
 have hTe:T t.aC.length=lx (kV t).aj (n+1):=by
  rw[hT];simp only
  rw[List.take_of_length_le (by simp)];rfl
 clear hT hL;refine yx (n) 1 (rs:=[.cell 2 39]) zmx func70 ntmps70 rfl rfl rfl rfl rfl ?_;simp -implicitDefEqProofs (disch:=omega) only[go_sem,ha,hs]
 (repeat(with_reducible refine And.intro ?_ ?_;focus first|omega|rfl|assumption|exact⟨_,rfl,rfl⟩|(simp;omega)|(simp;done)))
 refine au (dR _ (n+1)) ?_;simp -implicitDefEqProofs (disch:=omega) only[go_sem];refine au (dR _ (n+1+1)) ?_;simp -implicitDefEqProofs (disch:=omega) only[go_sem];refine au (iE t.aV (by omega) (n+1+1+1)) ?_;simp -implicitDefEqProofs (disch:=omega) only[go_sem];refine sw (iE [oK] (by simp) (n+1+1+1+jw (dA (aP t.aV)))) (.cons (Fu n _) .nil) ?_;simp -implicitDefEqProofs (disch:=omega) only[go_sem]
 (repeat(with_reducible refine And.intro ?_ ?_;focus first|omega|rfl|assumption|exact⟨_,rfl,rfl⟩|(simp;omega)|(simp;done)))
 refine qB n 4 2 (T 0) (.inl ?_) (hTr 0) ?_
 ·rw[hT0];rfl
 refine Dz (L 0) ?_
 refine aZ (ι:=Nat) zmx rfl [2,4,30,31,32] (fun i=>[.c (.ptr (0,3) 0),.c (.bG (0,4) (T i)),.c (.d (.sl (t.aC.map aF.enc))),.c (.d (.i .i64 t.aC.length)),.c (.d (.i .i64 i))])
  (fun i=>[.seed (L i),.seed 1,.box [.d (.s t.fName),.d (.sl (t.aV.map encS)),.d (.b true),.d (.b false),.d (.sl (t.aC.map aF.enc))],.box [.d (.s []),.bA []],.eD n 2 (T i)]::S)
  (fun i=>i<=t.aC.length) (fun i=>t.aC.length-i) 0 rfl rfl (Nat.zero_le _) ?_
 intro i hi;have hl:=mF i;simp -implicitDefEqProofs (disch:=omega) only[go_sem]
 with_reducible refine aA (fun hb=> ?_) (fun hb=> ?_)<;>have h:=hb<;>(try simp only[wf_preprocess] at h)<;>simp -implicitDefEqProofs (disch:=omega) only[go_sem,hb]<;>(repeat(with_reducible refine And.intro ?_ ?_;focus first|omega|rfl|assumption|exact⟨_,rfl,rfl⟩|(simp;omega)|(simp;done)))
 ·have hi':i<t.aC.length:=by omega
  have hm:=List.getElem_mem hi';have hcz:=um hm;have hce:=aF.sum t.aC[i];rw[fJ] at hce;obtain⟨q1,q2,q3⟩:=ni (hso _ hm);have hst:=hTs i hi'
  (repeat(with_reducible refine And.intro ?_ ?_;focus first|omega|rfl|assumption|exact⟨_,rfl,rfl⟩|(simp;omega)|(simp;done)))
  refine au (dR _ (L i+1)) ?_;simp -implicitDefEqProofs (disch:=omega) only[go_sem];refine au (Aw t.aC[i].bL (L i+1+1) (L i+1+1+1) q1 (by omega) (fun u hu=>by have:=uj hu;omega)) ?_;simp -implicitDefEqProofs (disch:=omega) only[go_sem];refine au (mP _) ?_;simp -implicitDefEqProofs (disch:=omega) only[go_sem];refine au (yA t.aC[i].bP (L i+1+1+jw (dA (t.aC[i].bL.map dK))) q2 (by omega)) ?_;simp -implicitDefEqProofs (disch:=omega) only[go_sem]
  with_reducible refine aA (fun hb=> ?_) (fun hb=> ?_)<;>have h:=hb<;>(try simp only[wf_preprocess] at h)<;>simp -implicitDefEqProofs (disch:=omega) only[go_sem,hb]<;>(repeat(with_reducible refine And.intro ?_ ?_;focus first|omega|rfl|assumption|exact⟨_,rfl,rfl⟩|(simp;omega)|(simp;done)))
  ·rw[vN h] at hst;simp only[nM,qw,kD,kP,kQ,eu,dX,mY] at hst;refine au (iE t.aC[i].aX (by omega) (L i+1+1+jw (dA (t.aC[i].bL.map dK))+jw (dK t.aC[i].bP))) ?_;simp -implicitDefEqProofs (disch:=omega) only[go_sem];refine au (Cx t.aC[i].fBody (L i+1+1+jw (dA (t.aC[i].bL.map dK))+jw (dK t.aC[i].bP)+jw (dA (aP t.aC[i].aX))) (q3 h) (by omega)) ?_;simp -implicitDefEqProofs (disch:=omega) only[go_sem]
   (repeat(with_reducible refine And.intro ?_ ?_;focus first|omega|rfl|assumption|exact⟨_,rfl,rfl⟩|(simp;omega)|(simp;done)))
   refine au (mP _) ?_;simp -implicitDefEqProofs (disch:=omega) only[go_sem]
   (repeat(with_reducible refine And.intro ?_ ?_;focus first|omega|rfl|assumption|exact⟨_,rfl,rfl⟩|(simp;omega)|(simp;done)))
   rw[hst];refine vM (L (i+1)) 4 (by decide) (i+1) (by omega) rfl rfl ?_ rfl (by omega);simp[kg,iA,V.refs,C.refs,lZ]
  ·rw[vO h] at hst;simp only[nM,qw,kD,kP,kQ,eu,dX,mY] at hst;refine au (uX _ _) ?_;simp -implicitDefEqProofs (disch:=omega) only[go_sem]
   (repeat(with_reducible refine And.intro ?_ ?_;focus first|omega|rfl|assumption|exact⟨_,rfl,rfl⟩|(simp;omega)|(simp;done)))
   rw[hst];refine vM (L (i+1)) 4 (by decide) (i+1) (by omega) rfl rfl ?_ rfl (by omega);simp[kg,iA,V.refs,C.refs,lZ]
 ·have hi':i=t.aC.length:=by omega
  refine bB rfl (jU 0 4 _ _) ?_;simp -implicitDefEqProofs (disch:=omega) only[go_sem];rw[hi',hTe]
theorem Ry(t:aU)(n:Nat)(hv:cZ t=true)(hsz:t.sz<=1048576)(ha:t.jR=false)(hs:t.eX=true):aG prog 70 [t.v] (.agg [.d (.s []),.d (.ol n (lx (kV t).aj (n+1)))]):=fun S=>by
 have hdz:=aU.sum t;rw[fJ] at hdz;obtain⟨hso,_⟩:=gN hv
 have hfl:jk t=[fT]:=by unfold jk;rw[ha,hs];rfl
 obtain⟨L,hL⟩:∃L:Nat->Nat,L=fun i=>n+1+iB (gu t++(t.aC.map kU).take i):=⟨_,rfl⟩;obtain⟨T,hT⟩:∃T:Nat->List (List D),T=fun i=>lx (gu t++(t.aC.map kU).take i) (n+1):=⟨_,rfl⟩
 have hT0:T 0=[[.s sG,.ol (n+1) []],[.s t.fName,.ol (n+1+1) []],[.s [],.ol (n+1+1+1) (lx (aP t.aV) (n+1+1+1+1))],[.s [],.ol (n+1+1+1+jw (dA (aP t.aV))) (lx (aP [fT]) (n+1+1+1+jw (dA (aP t.aV))+1))]]:=by
  rw[hT];simp only[List.take_zero,List.append_nil,gu,hfl];exact Az _ _ _ _ _
 have mF:∀i,(T i).length<=i+4:=fun i=>by
  rw[hT];simp only[gL,List.length_append];have:=List.length_take_le i (t.aC.map kU);simp[gu];omega
 have hTs:∀i (hi:i<t.aC.length),T i++[[.s [],.ol (L i) (lx (kU t.aC[i]).aj (L i+1))]]=T (i+1):=fun i hi=>by
  have:=Cm (base:=gu t) (l:=t.aC.map kU) (i:=i) (by rw[List.length_map];exact hi) (n+1);rw[List.getElem_map,vP] at this;rw[hT,hL];exact this
 have hTr:∀i,∀r∈T i,r.length=2:=fun i=>by rw[hT];exact kY
 have hTe:T t.aC.length=lx (kV t).aj (n+1):=by
  rw[hT];simp only
  rw[List.take_of_length_le (by simp)];rfl
 clear hT hL;refine yx (n) 1 (rs:=[.cell 2 39]) zmx func70 ntmps70 rfl rfl rfl rfl rfl ?_;simp -implicitDefEqProofs (disch:=omega) only[go_sem,ha,hs]
 (repeat(with_reducible refine And.intro ?_ ?_;focus first|omega|rfl|assumption|exact⟨_,rfl,rfl⟩|(simp;omega)|(simp;done)))
 refine au (dR _ (n+1)) ?_;simp -implicitDefEqProofs (disch:=omega) only[go_sem];refine au (dR _ (n+1+1)) ?_;simp -implicitDefEqProofs (disch:=omega) only[go_sem];refine au (iE t.aV (by omega) (n+1+1+1)) ?_;simp -implicitDefEqProofs (disch:=omega) only[go_sem];refine sw (iE [fT] (by simp) (n+1+1+1+jw (dA (aP t.aV)))) (.cons (Fu n _) .nil) ?_;simp -implicitDefEqProofs (disch:=omega) only[go_sem]
 (repeat(with_reducible refine And.intro ?_ ?_;focus first|omega|rfl|assumption|exact⟨_,rfl,rfl⟩|(simp;omega)|(simp;done)))
 refine qB n 4 2 (T 0) (.inl ?_) (hTr 0) ?_
 ·rw[hT0];rfl
 refine Dz (L 0) ?_
 refine aZ (ι:=Nat) zmx rfl [2,4,30,31,32] (fun i=>[.c (.ptr (0,3) 0),.c (.bG (0,4) (T i)),.c (.d (.sl (t.aC.map aF.enc))),.c (.d (.i .i64 t.aC.length)),.c (.d (.i .i64 i))])
  (fun i=>[.seed (L i),.seed 1,.box [.d (.s t.fName),.d (.sl (t.aV.map encS)),.d (.b false),.d (.b true),.d (.sl (t.aC.map aF.enc))],.box [.d (.s []),.bA []],.eD n 2 (T i)]::S)
  (fun i=>i<=t.aC.length) (fun i=>t.aC.length-i) 0 rfl rfl (Nat.zero_le _) ?_
 intro i hi;have hl:=mF i;simp -implicitDefEqProofs (disch:=omega) only[go_sem]
 with_reducible refine aA (fun hb=> ?_) (fun hb=> ?_)<;>have h:=hb<;>(try simp only[wf_preprocess] at h)<;>simp -implicitDefEqProofs (disch:=omega) only[go_sem,hb]<;>(repeat(with_reducible refine And.intro ?_ ?_;focus first|omega|rfl|assumption|exact⟨_,rfl,rfl⟩|(simp;omega)|(simp;done)))
 ·have hi':i<t.aC.length:=by omega
  have hm:=List.getElem_mem hi';have hcz:=um hm;have hce:=aF.sum t.aC[i];rw[fJ] at hce;obtain⟨q1,q2,q3⟩:=ni (hso _ hm);have hst:=hTs i hi'
  (repeat(with_reducible refine And.intro ?_ ?_;focus first|omega|rfl|assumption|exact⟨_,rfl,rfl⟩|(simp;omega)|(simp;done)))
  refine au (dR _ (L i+1)) ?_;simp -implicitDefEqProofs (disch:=omega) only[go_sem];refine au (Aw t.aC[i].bL (L i+1+1) (L i+1+1+1) q1 (by omega) (fun u hu=>by have:=uj hu;omega)) ?_;simp -implicitDefEqProofs (disch:=omega) only[go_sem];refine au (mP _) ?_;simp -implicitDefEqProofs (disch:=omega) only[go_sem];refine au (yA t.aC[i].bP (L i+1+1+jw (dA (t.aC[i].bL.map dK))) q2 (by omega)) ?_;simp -implicitDefEqProofs (disch:=omega) only[go_sem]
  with_reducible refine aA (fun hb=> ?_) (fun hb=> ?_)<;>have h:=hb<;>(try simp only[wf_preprocess] at h)<;>simp -implicitDefEqProofs (disch:=omega) only[go_sem,hb]<;>(repeat(with_reducible refine And.intro ?_ ?_;focus first|omega|rfl|assumption|exact⟨_,rfl,rfl⟩|(simp;omega)|(simp;done)))
  ·rw[vN h] at hst;simp only[nM,qw,kD,kP,kQ,eu,dX,mY] at hst;refine au (iE t.aC[i].aX (by omega) (L i+1+1+jw (dA (t.aC[i].bL.map dK))+jw (dK t.aC[i].bP))) ?_;simp -implicitDefEqProofs (disch:=omega) only[go_sem];refine au (Cx t.aC[i].fBody (L i+1+1+jw (dA (t.aC[i].bL.map dK))+jw (dK t.aC[i].bP)+jw (dA (aP t.aC[i].aX))) (q3 h) (by omega)) ?_;simp -implicitDefEqProofs (disch:=omega) only[go_sem]
   (repeat(with_reducible refine And.intro ?_ ?_;focus first|omega|rfl|assumption|exact⟨_,rfl,rfl⟩|(simp;omega)|(simp;done)))
   refine au (mP _) ?_;simp -implicitDefEqProofs (disch:=omega) only[go_sem]
   (repeat(with_reducible refine And.intro ?_ ?_;focus first|omega|rfl|assumption|exact⟨_,rfl,rfl⟩|(simp;omega)|(simp;done)))
   rw[hst];refine vM (L (i+1)) 4 (by decide) (i+1) (by omega) rfl rfl ?_ rfl (by omega);simp[kg,iA,V.refs,C.refs,lZ]
  ·rw[vO h] at hst;simp only[nM,qw,kD,kP,kQ,eu,dX,mY] at hst;refine au (uX _ _) ?_;simp -implicitDefEqProofs (disch:=omega) only[go_sem]
   (repeat(with_reducible refine And.intro ?_ ?_;focus first|omega|rfl|assumption|exact⟨_,rfl,rfl⟩|(simp;omega)|(simp;done)))
   rw[hst];refine vM (L (i+1)) 4 (by decide) (i+1) (by omega) rfl rfl ?_ rfl (by omega);simp[kg,iA,V.refs,C.refs,lZ]
 ·have hi':i=t.aC.length:=by omega
  refine bB rfl (jU 0 4 _ _) ?_;simp -implicitDefEqProofs (disch:=omega) only[go_sem];rw[hi',hTe]
theorem Rz(t:aU)(n:Nat)(hv:cZ t=true)(hsz:t.sz<=1048576)(ha:t.jR=false)(hs:t.eX=false):aG prog 70 [t.v] (.agg [.d (.s []),.d (.ol n (lx (kV t).aj (n+1)))]):=fun S=>by
 have hdz:=aU.sum t;rw[fJ] at hdz;obtain⟨hso,_⟩:=gN hv
 have hfl:jk t=[]:=by unfold jk;rw[ha,hs];rfl
 obtain⟨L,hL⟩:∃L:Nat->Nat,L=fun i=>n+1+iB (gu t++(t.aC.map kU).take i):=⟨_,rfl⟩;obtain⟨T,hT⟩:∃T:Nat->List (List D),T=fun i=>lx (gu t++(t.aC.map kU).take i) (n+1):=⟨_,rfl⟩
 have hT0:T 0=[[.s sG,.ol (n+1) []],[.s t.fName,.ol (n+1+1) []],[.s [],.ol (n+1+1+1) (lx (aP t.aV) (n+1+1+1+1))],[.s [],.ol (n+1+1+1+jw (dA (aP t.aV))) (lx (aP []) (n+1+1+1+jw (dA (aP t.aV))+1))]]:=by
  rw[hT];simp only[List.take_zero,List.append_nil,gu,hfl];exact Az _ _ _ _ _
 have mF:∀i,(T i).length<=i+4:=fun i=>by
  rw[hT];simp only[gL,List.length_append];have:=List.length_take_le i (t.aC.map kU);simp[gu];omega
 have hTs:∀i (hi:i<t.aC.length),T i++[[.s [],.ol (L i) (lx (kU t.aC[i]).aj (L i+1))]]=T (i+1):=fun i hi=>by
  have:=Cm (base:=gu t) (l:=t.aC.map kU) (i:=i) (by rw[List.length_map];exact hi) (n+1);rw[List.getElem_map,vP] at this;rw[hT,hL];exact this
 have hTr:∀i,∀r∈T i,r.length=2:=fun i=>by rw[hT];exact kY
 have hTe:T t.aC.length=lx (kV t).aj (n+1):=by
  rw[hT];simp only
  rw[List.take_of_length_le (by simp)];rfl
 clear hT hL;refine yx (n) 1 (rs:=[.cell 2 39]) zmx func70 ntmps70 rfl rfl rfl rfl rfl ?_;simp -implicitDefEqProofs (disch:=omega) only[go_sem,ha,hs]
 (repeat(with_reducible refine And.intro ?_ ?_;focus first|omega|rfl|assumption|exact⟨_,rfl,rfl⟩|(simp;omega)|(simp;done)))
 refine au (dR _ (n+1)) ?_;simp -implicitDefEqProofs (disch:=omega) only[go_sem];refine au (dR _ (n+1+1)) ?_;simp -implicitDefEqProofs (disch:=omega) only[go_sem];refine au (iE t.aV (by omega) (n+1+1+1)) ?_;simp -implicitDefEqProofs (disch:=omega) only[go_sem];refine sw (iE [] (by simp) (n+1+1+1+jw (dA (aP t.aV)))) (.cons (mZ n _) .nil) ?_;simp -implicitDefEqProofs (disch:=omega) only[go_sem]
 (repeat(with_reducible refine And.intro ?_ ?_;focus first|omega|rfl|assumption|exact⟨_,rfl,rfl⟩|(simp;omega)|(simp;done)))
 refine qB n 4 2 (T 0) (.inl ?_) (hTr 0) ?_
 ·rw[hT0];rfl
 refine Dz (L 0) ?_
 refine aZ (ι:=Nat) zmx rfl [2,4,30,31,32] (fun i=>[.c (.ptr (0,3) 0),.c (.bG (0,4) (T i)),.c (.d (.sl (t.aC.map aF.enc))),.c (.d (.i .i64 t.aC.length)),.c (.d (.i .i64 i))])
  (fun i=>[.seed (L i),.seed 1,.box [.d (.s t.fName),.d (.sl (t.aV.map encS)),.d (.b false),.d (.b false),.d (.sl (t.aC.map aF.enc))],.box [.d (.s []),.bA []],.eD n 2 (T i)]::S)
  (fun i=>i<=t.aC.length) (fun i=>t.aC.length-i) 0 rfl rfl (Nat.zero_le _) ?_
 intro i hi;have hl:=mF i;simp -implicitDefEqProofs (disch:=omega) only[go_sem]
 with_reducible refine aA (fun hb=> ?_) (fun hb=> ?_)<;>have h:=hb<;>(try simp only[wf_preprocess] at h)<;>simp -implicitDefEqProofs (disch:=omega) only[go_sem,hb]<;>(repeat(with_reducible refine And.intro ?_ ?_;focus first|omega|rfl|assumption|exact⟨_,rfl,rfl⟩|(simp;omega)|(simp;done)))
 ·have hi':i<t.aC.length:=by omega
  have hm:=List.getElem_mem hi';have hcz:=um hm;have hce:=aF.sum t.aC[i];rw[fJ] at hce;obtain⟨q1,q2,q3⟩:=ni (hso _ hm);have hst:=hTs i hi'
  (repeat(with_reducible refine And.intro ?_ ?_;focus first|omega|rfl|assumption|exact⟨_,rfl,rfl⟩|(simp;omega)|(simp;done)))
  refine au (dR _ (L i+1)) ?_;simp -implicitDefEqProofs (disch:=omega) only[go_sem];refine au (Aw t.aC[i].bL (L i+1+1) (L i+1+1+1) q1 (by omega) (fun u hu=>by have:=uj hu;omega)) ?_;simp -implicitDefEqProofs (disch:=omega) only[go_sem];refine au (mP _) ?_;simp -implicitDefEqProofs (disch:=omega) only[go_sem];refine au (yA t.aC[i].bP (L i+1+1+jw (dA (t.aC[i].bL.map dK))) q2 (by omega)) ?_;simp -implicitDefEqProofs (disch:=omega) only[go_sem]
  with_reducible refine aA (fun hb=> ?_) (fun hb=> ?_)<;>have h:=hb<;>(try simp only[wf_preprocess] at h)<;>simp -implicitDefEqProofs (disch:=omega) only[go_sem,hb]<;>(repeat(with_reducible refine And.intro ?_ ?_;focus first|omega|rfl|assumption|exact⟨_,rfl,rfl⟩|(simp;omega)|(simp;done)))
  ·rw[vN h] at hst;simp only[nM,qw,kD,kP,kQ,eu,dX,mY] at hst;refine au (iE t.aC[i].aX (by omega) (L i+1+1+jw (dA (t.aC[i].bL.map dK))+jw (dK t.aC[i].bP))) ?_;simp -implicitDefEqProofs (disch:=omega) only[go_sem];refine au (Cx t.aC[i].fBody (L i+1+1+jw (dA (t.aC[i].bL.map dK))+jw (dK t.aC[i].bP)+jw (dA (aP t.aC[i].aX))) (q3 h) (by omega)) ?_;simp -implicitDefEqProofs (disch:=omega) only[go_sem]
   (repeat(with_reducible refine And.intro ?_ ?_;focus first|omega|rfl|assumption|exact⟨_,rfl,rfl⟩|(simp;omega)|(simp;done)))
   refine au (mP _) ?_;simp -implicitDefEqProofs (disch:=omega) only[go_sem]
   (repeat(with_reducible refine And.intro ?_ ?_;focus first|omega|rfl|assumption|exact⟨_,rfl,rfl⟩|(simp;omega)|(simp;done)))
   rw[hst];refine vM (L (i+1)) 4 (by decide) (i+1) (by omega) rfl rfl ?_ rfl (by omega);simp[kg,iA,V.refs,C.refs,lZ]
  ·rw[vO h] at hst;simp only[nM,qw,kD,kP,kQ,eu,dX,mY] at hst;refine au (uX _ _) ?_;simp -implicitDefEqProofs (disch:=omega) only[go_sem]
   (repeat(with_reducible refine And.intro ?_ ?_;focus first|omega|rfl|assumption|exact⟨_,rfl,rfl⟩|(simp;omega)|(simp;done)))
   rw[hst];refine vM (L (i+1)) 4 (by decide) (i+1) (by omega) rfl rfl ?_ rfl (by omega);simp[kg,iA,V.refs,C.refs,lZ]
 ·have hi':i=t.aC.length:=by omega
  refine bB rfl (jU 0 4 _ _) ?_;simp -implicitDefEqProofs (disch:=omega) only[go_sem];rw[hi',hTe]
theorem C8(t:aU)(n:Nat)(hv:cZ t=true)(hsz:t.sz<=1048576):aG prog 70 [t.v] (.agg [.d (.s []),.d (.ol n (lx (kV t).aj (n+1)))]):=by
 have hb:=(gN hv).2
 cases ha:t.jR with
 |true=>
  cases hs:t.eX with
  |true=>exact absurd ⟨ha,hs⟩ hb
  |false=>exact Rx t n hv hsz ha hs
 |false=>
  cases hs:t.eX with
  |true=>exact Ry t n hv hsz ha hs
  |false=>exact Rz t n hv hsz ha hs
theorem JK(x:aU)(n:Nat)(hsz:x.sz<=1048576):aG prog 17 [x.v] (.agg [.d (.s (iF x).aQ),.d (.ol n (lx (iF x).aj (n+1)))]):=by
 unfold iF
 cases hv:cZ x with
 |false=>
  rw[uU];refine aG.less (fun S=> ?_) (KH [] n);refine zcx [.cell 2 39] func17 ntmps17 ?_;simp -implicitDefEqProofs (disch:=omega) only[go_sem];refine au (oJ x (by omega)) ?_;simp -implicitDefEqProofs (disch:=omega) only[go_sem,hv]
 |true=>
  intro S;have hz:=Bq hv;refine zcx [.cell 2 39] func17 ntmps17 ?_;simp -implicitDefEqProofs (disch:=omega) only[go_sem];refine au (oJ x (by omega)) ?_;simp -implicitDefEqProofs (disch:=omega) only[go_sem,hv];refine au (C8 x n hv hsz) ?_;simp -implicitDefEqProofs (disch:=omega) only[go_sem];refine au (Vm (kV x) n (by omega)) ?_;simp -implicitDefEqProofs (disch:=omega) only[go_sem];rfl
theorem abP(t:aU)(hv:cZ t=true)(hsz:t.sz<=1048576)(ha:t.jR=true)(hs:t.eX=false):aG prog 18 [t.v] (Bg (kV t)).v:=fun S=>by
 have hdz:=aU.sum t;rw[fJ] at hdz;obtain⟨hso,_⟩:=gN hv;have hz:=Bq hv
 have hfl:jk t=[oK]:=by unfold jk;rw[ha,hs];rfl
 obtain⟨T,hT⟩:∃T:Nat->List (List D),T=fun i=>(gu t++(t.aC.map kU).take i).map ah.enc:=⟨_,rfl⟩
 have hT0:T 0=[[.s sG,.sl []],[.s t.fName,.sl []],[.s [],.sl ((aP t.aV).map ah.enc)],[.s [],.sl ((aP [oK]).map ah.enc)]]:=by
  rw[hT];simp only[List.take_zero,List.append_nil,gu,hfl,List.map_cons,List.map_nil,fP,qb]
 have mF:∀i,(T i).length<=i+4:=fun i=>by
  rw[hT];simp only[List.length_map,List.length_append];have:=List.length_take_le i (t.aC.map kU);simp[gu];omega
 have hTs:∀i (hi:i<t.aC.length),T i++[[.s [],.sl ((kU t.aC[i]).aj.map ah.enc)]]=T (i+1):=fun i hi=>by
  have:=l9 (base:=gu t) (l:=t.aC.map kU) (i:=i) (by rw[List.length_map];exact hi);rw[List.getElem_map,vP] at this;rw[hT];exact this
 have hTr:∀i,∀r∈T i,r.length=2:=fun i=>by rw[hT];exact iq
 have hTe:T t.aC.length=(kV t).aj.map ah.enc:=by
  rw[hT];simp only
  rw[List.take_of_length_le (by simp)];rfl
 clear hT;refine zcx [.cell 2 39] func18 ntmps18 ?_;simp -implicitDefEqProofs (disch:=omega) only[go_sem];refine au (mK t (by omega)) ?_;simp -implicitDefEqProofs (disch:=omega) only[go_sem,hv,ha,hs]
 (repeat(with_reducible refine And.intro ?_ ?_;focus first|omega|rfl|assumption|exact⟨_,rfl,rfl⟩|(simp;omega)|(simp;done)))
 refine au (bQ _) ?_;simp -implicitDefEqProofs (disch:=omega) only[go_sem];refine au (bQ _) ?_;simp -implicitDefEqProofs (disch:=omega) only[go_sem];refine au (iZ t.aV (by omega)) ?_;simp -implicitDefEqProofs (disch:=omega) only[go_sem];refine au (iZ [oK] (by simp)) ?_;simp -implicitDefEqProofs (disch:=omega) only[go_sem];have hE:=fun bg Ω=>o9 (T 0) (hTr 0) (by have:=mF 0;omega) bg Ω;simp only[hT0] at hE;refine iI [false] rfl (hE _ _) ?_;simp -implicitDefEqProofs (disch:=omega) only[go_sem]
 refine aZ (ι:=Nat) zmx rfl [1,2,4,5] (fun i=>[.c (.ptr (0,0) 0),.c (.ptr (0,1) 0),.c (.ptr (0,5) 0),.c (.d (.i .i64 i))])
  (fun i=>[.box [.d (.s t.fName),.d (.sl (t.aV.map encS)),.d (.b true),.d (.b false),.d (.sl (t.aC.map aF.enc))],.box [.d (.s []),.bA []],.tok 1 [[.s oK]],.box [.d (.s []),.bG (0,4) (T 0)],.tok 2 (T i),.box [.d (.s []),.bG (0,4) (T i)]]::S)
  (fun i=>i<=t.aC.length) (fun i=>t.aC.length-i) 0 rfl (by simp only[hT0]<;>(try rfl)) (Nat.zero_le _) ?_
 intro i hi;have hl:=mF i;simp -implicitDefEqProofs (disch:=omega) only[go_sem]
 with_reducible refine aA (fun hb=> ?_) (fun hb=> ?_)<;>have h:=hb<;>(try simp only[wf_preprocess] at h)<;>simp -implicitDefEqProofs (disch:=omega) only[go_sem,hb]<;>(repeat(with_reducible refine And.intro ?_ ?_;focus first|omega|rfl|assumption|exact⟨_,rfl,rfl⟩|(simp;omega)|(simp;done)))
 ·have hi':i<t.aC.length:=by omega
  have hm:=List.getElem_mem hi';have hcz:=um hm;have hce:=aF.sum t.aC[i];rw[fJ] at hce;obtain⟨q1,q2,q3⟩:=ni (hso _ hm);have hst:=hTs i hi'
  (repeat(with_reducible refine And.intro ?_ ?_;focus first|omega|rfl|assumption|exact⟨_,rfl,rfl⟩|(simp;omega)|(simp;done)))
  refine au (bQ _) ?_;simp -implicitDefEqProofs (disch:=omega) only[go_sem];refine au (Cq t.aC[i].bL (by omega) (fun u hu=>by have:=uj hu;omega)) ?_;simp -implicitDefEqProofs (disch:=omega) only[go_sem];refine au (wT t.aC[i].bP (by omega)) ?_;simp -implicitDefEqProofs (disch:=omega) only[go_sem];refine iI [false] rfl (o9 _ (by simp) (by simp) _ _) ?_;simp -implicitDefEqProofs (disch:=omega) only[go_sem]
  with_reducible refine aA (fun hb=> ?_) (fun hb=> ?_)<;>have h:=hb<;>(try simp only[wf_preprocess] at h)<;>simp -implicitDefEqProofs (disch:=omega) only[go_sem,hb]<;>(repeat(with_reducible refine And.intro ?_ ?_;focus first|omega|rfl|assumption|exact⟨_,rfl,rfl⟩|(simp;omega)|(simp;done)))
  ·rw[vN h] at hst;simp only[List.map_cons,List.map_nil,fP,qb,ah.aB (dK t.aC[i].bP),ah.aB (dZ t.aC[i].fBody)] at hst;refine au (iZ t.aC[i].aX (by omega)) ?_;simp -implicitDefEqProofs (disch:=omega) only[go_sem];refine au (Em t.aC[i].fBody (q3 h) (by omega)) ?_;simp -implicitDefEqProofs (disch:=omega) only[go_sem]
   (repeat(with_reducible refine And.intro ?_ ?_;focus first|omega|rfl|assumption|exact⟨_,rfl,rfl⟩|(simp;omega)|(simp;done)))
   rw[hst];exact dD 6 (by decide) (i+1) (by omega) rfl rfl rfl rfl (by omega)
  ·rw[vO h] at hst;simp only[List.map_cons,List.map_nil,fP,qb,ah.aB (dK t.aC[i].bP)] at hst
   (repeat(with_reducible refine And.intro ?_ ?_;focus first|omega|rfl|assumption|exact⟨_,rfl,rfl⟩|(simp;omega)|(simp;done)))
   rw[hst];exact dD 6 (by decide) (i+1) (by omega) rfl rfl rfl rfl (by omega)
 ·have hi':i=t.aC.length:=by omega
  subst hi';rw[hTe];refine au (Eh true (kV t) (by omega)) ?_;simp -implicitDefEqProofs (disch:=omega) only[go_sem];rfl
theorem abQ(t:aU)(hv:cZ t=true)(hsz:t.sz<=1048576)(ha:t.jR=false)(hs:t.eX=true):aG prog 18 [t.v] (Bg (kV t)).v:=fun S=>by
 have hdz:=aU.sum t;rw[fJ] at hdz;obtain⟨hso,_⟩:=gN hv;have hz:=Bq hv
 have hfl:jk t=[fT]:=by unfold jk;rw[ha,hs];rfl
 obtain⟨T,hT⟩:∃T:Nat->List (List D),T=fun i=>(gu t++(t.aC.map kU).take i).map ah.enc:=⟨_,rfl⟩
 have hT0:T 0=[[.s sG,.sl []],[.s t.fName,.sl []],[.s [],.sl ((aP t.aV).map ah.enc)],[.s [],.sl ((aP [fT]).map ah.enc)]]:=by
  rw[hT];simp only[List.take_zero,List.append_nil,gu,hfl,List.map_cons,List.map_nil,fP,qb]
 have mF:∀i,(T i).length<=i+4:=fun i=>by
  rw[hT];simp only[List.length_map,List.length_append];have:=List.length_take_le i (t.aC.map kU);simp[gu];omega
 have hTs:∀i (hi:i<t.aC.length),T i++[[.s [],.sl ((kU t.aC[i]).aj.map ah.enc)]]=T (i+1):=fun i hi=>by
  have:=l9 (base:=gu t) (l:=t.aC.map kU) (i:=i) (by rw[List.length_map];exact hi);rw[List.getElem_map,vP] at this;rw[hT];exact this
 have hTr:∀i,∀r∈T i,r.length=2:=fun i=>by rw[hT];exact iq
 have hTe:T t.aC.length=(kV t).aj.map ah.enc:=by
  rw[hT];simp only
  rw[List.take_of_length_le (by simp)];rfl
 clear hT;refine zcx [.cell 2 39] func18 ntmps18 ?_;simp -implicitDefEqProofs (disch:=omega) only[go_sem];refine au (mK t (by omega)) ?_;simp -implicitDefEqProofs (disch:=omega) only[go_sem,hv,ha,hs]
 (repeat(with_reducible refine And.intro ?_ ?_;focus first|omega|rfl|assumption|exact⟨_,rfl,rfl⟩|(simp;omega)|(simp;done)))
 refine au (bQ _) ?_;simp -implicitDefEqProofs (disch:=omega) only[go_sem];refine au (bQ _) ?_;simp -implicitDefEqProofs (disch:=omega) only[go_sem];refine au (iZ t.aV (by omega)) ?_;simp -implicitDefEqProofs (disch:=omega) only[go_sem];refine au (iZ [fT] (by simp)) ?_;simp -implicitDefEqProofs (disch:=omega) only[go_sem];have hE:=fun bg Ω=>o9 (T 0) (hTr 0) (by have:=mF 0;omega) bg Ω;simp only[hT0] at hE;refine iI [false] rfl (hE _ _) ?_;simp -implicitDefEqProofs (disch:=omega) only[go_sem]
 refine aZ (ι:=Nat) zmx rfl [1,2,4,5] (fun i=>[.c (.ptr (0,0) 0),.c (.ptr (0,1) 0),.c (.ptr (0,5) 0),.c (.d (.i .i64 i))])
  (fun i=>[.box [.d (.s t.fName),.d (.sl (t.aV.map encS)),.d (.b false),.d (.b true),.d (.sl (t.aC.map aF.enc))],.box [.d (.s []),.bA []],.tok 1 [[.s fT]],.box [.d (.s []),.bG (0,4) (T 0)],.tok 2 (T i),.box [.d (.s []),.bG (0,4) (T i)]]::S)
  (fun i=>i<=t.aC.length) (fun i=>t.aC.length-i) 0 rfl (by simp only[hT0]<;>(try rfl)) (Nat.zero_le _) ?_
 intro i hi;have hl:=mF i;simp -implicitDefEqProofs (disch:=omega) only[go_sem]
 with_reducible refine aA (fun hb=> ?_) (fun hb=> ?_)<;>have h:=hb<;>(try simp only[wf_preprocess] at h)<;>simp -implicitDefEqProofs (disch:=omega) only[go_sem,hb]<;>(repeat(with_reducible refine And.intro ?_ ?_;focus first|omega|rfl|assumption|exact⟨_,rfl,rfl⟩|(simp;omega)|(simp;done)))
 ·have hi':i<t.aC.length:=by omega
  have hm:=List.getElem_mem hi';have hcz:=um hm;have hce:=aF.sum t.aC[i];rw[fJ] at hce;obtain⟨q1,q2,q3⟩:=ni (hso _ hm);have hst:=hTs i hi'
  (repeat(with_reducible refine And.intro ?_ ?_;focus first|omega|rfl|assumption|exact⟨_,rfl,rfl⟩|(simp;omega)|(simp;done)))
  refine au (bQ _) ?_;simp -implicitDefEqProofs (disch:=omega) only[go_sem];refine au (Cq t.aC[i].bL (by omega) (fun u hu=>by have:=uj hu;omega)) ?_;simp -implicitDefEqProofs (disch:=omega) only[go_sem];refine au (wT t.aC[i].bP (by omega)) ?_;simp -implicitDefEqProofs (disch:=omega) only[go_sem];refine iI [false] rfl (o9 _ (by simp) (by simp) _ _) ?_;simp -implicitDefEqProofs (disch:=omega) only[go_sem]
  with_reducible refine aA (fun hb=> ?_) (fun hb=> ?_)<;>have h:=hb<;>(try simp only[wf_preprocess] at h)<;>simp -implicitDefEqProofs (disch:=omega) only[go_sem,hb]<;>(repeat(with_reducible refine And.intro ?_ ?_;focus first|omega|rfl|assumption|exact⟨_,rfl,rfl⟩|(simp;omega)|(simp;done)))
  ·rw[vN h] at hst;simp only[List.map_cons,List.map_nil,fP,qb,ah.aB (dK t.aC[i].bP),ah.aB (dZ t.aC[i].fBody)] at hst;refine au (iZ t.aC[i].aX (by omega)) ?_;simp -implicitDefEqProofs (disch:=omega) only[go_sem];refine au (Em t.aC[i].fBody (q3 h) (by omega)) ?_;simp -implicitDefEqProofs (disch:=omega) only[go_sem]
   (repeat(with_reducible refine And.intro ?_ ?_;focus first|omega|rfl|assumption|exact⟨_,rfl,rfl⟩|(simp;omega)|(simp;done)))
   rw[hst];exact dD 6 (by decide) (i+1) (by omega) rfl rfl rfl rfl (by omega)
  ·rw[vO h] at hst;simp only[List.map_cons,List.map_nil,fP,qb,ah.aB (dK t.aC[i].bP)] at hst
   (repeat(with_reducible refine And.intro ?_ ?_;focus first|omega|rfl|assumption|exact⟨_,rfl,rfl⟩|(simp;omega)|(simp;done)))
   rw[hst];exact dD 6 (by decide) (i+1) (by omega) rfl rfl rfl rfl (by omega)
 ·have hi':i=t.aC.length:=by omega
  subst hi';rw[hTe];refine au (Eh true (kV t) (by omega)) ?_;simp -implicitDefEqProofs (disch:=omega) only[go_sem];rfl
theorem abR(t:aU)(hv:cZ t=true)(hsz:t.sz<=1048576)(ha:t.jR=false)(hs:t.eX=false):aG prog 18 [t.v] (Bg (kV t)).v:=fun S=>by
 have hdz:=aU.sum t;rw[fJ] at hdz;obtain⟨hso,_⟩:=gN hv;have hz:=Bq hv
 have hfl:jk t=[]:=by unfold jk;rw[ha,hs];rfl
 obtain⟨T,hT⟩:∃T:Nat->List (List D),T=fun i=>(gu t++(t.aC.map kU).take i).map ah.enc:=⟨_,rfl⟩
 have hT0:T 0=[[.s sG,.sl []],[.s t.fName,.sl []],[.s [],.sl ((aP t.aV).map ah.enc)],[.s [],.sl ((aP []).map ah.enc)]]:=by
  rw[hT];simp only[List.take_zero,List.append_nil,gu,hfl,List.map_cons,List.map_nil,fP,qb]
 have mF:∀i,(T i).length<=i+4:=fun i=>by
  rw[hT];simp only[List.length_map,List.length_append];have:=List.length_take_le i (t.aC.map kU);simp[gu];omega
 have hTs:∀i (hi:i<t.aC.length),T i++[[.s [],.sl ((kU t.aC[i]).aj.map ah.enc)]]=T (i+1):=fun i hi=>by
  have:=l9 (base:=gu t) (l:=t.aC.map kU) (i:=i) (by rw[List.length_map];exact hi);rw[List.getElem_map,vP] at this;rw[hT];exact this
 have hTr:∀i,∀r∈T i,r.length=2:=fun i=>by rw[hT];exact iq
 have hTe:T t.aC.length=(kV t).aj.map ah.enc:=by
  rw[hT];simp only
  rw[List.take_of_length_le (by simp)];rfl
 clear hT;refine zcx [.cell 2 39] func18 ntmps18 ?_;simp -implicitDefEqProofs (disch:=omega) only[go_sem];refine au (mK t (by omega)) ?_;simp -implicitDefEqProofs (disch:=omega) only[go_sem,hv,ha,hs]
 (repeat(with_reducible refine And.intro ?_ ?_;focus first|omega|rfl|assumption|exact⟨_,rfl,rfl⟩|(simp;omega)|(simp;done)))
 refine au (bQ _) ?_;simp -implicitDefEqProofs (disch:=omega) only[go_sem];refine au (bQ _) ?_;simp -implicitDefEqProofs (disch:=omega) only[go_sem];refine au (iZ t.aV (by omega)) ?_;simp -implicitDefEqProofs (disch:=omega) only[go_sem];refine au (iZ [] (by simp)) ?_;simp -implicitDefEqProofs (disch:=omega) only[go_sem];have hE:=fun bg Ω=>o9 (T 0) (hTr 0) (by have:=mF 0;omega) bg Ω;simp only[hT0] at hE;refine iI [false] rfl (hE _ _) ?_;simp -implicitDefEqProofs (disch:=omega) only[go_sem]
 refine aZ (ι:=Nat) zmx rfl [1,2,4,5] (fun i=>[.c (.ptr (0,0) 0),.c (.ptr (0,1) 0),.c (.ptr (0,4) 0),.c (.d (.i .i64 i))])
  (fun i=>[.box [.d (.s t.fName),.d (.sl (t.aV.map encS)),.d (.b false),.d (.b false),.d (.sl (t.aC.map aF.enc))],.box [.d (.s []),.bA []],.box [.d (.s []),.bG (0,3) (T 0)],.tok 2 (T i),.box [.d (.s []),.bG (0,3) (T i)]]::S)
  (fun i=>i<=t.aC.length) (fun i=>t.aC.length-i) 0 rfl (by simp only[hT0]<;>(try rfl)) (Nat.zero_le _) ?_
 intro i hi;have hl:=mF i;simp -implicitDefEqProofs (disch:=omega) only[go_sem]
 with_reducible refine aA (fun hb=> ?_) (fun hb=> ?_)<;>have h:=hb<;>(try simp only[wf_preprocess] at h)<;>simp -implicitDefEqProofs (disch:=omega) only[go_sem,hb]<;>(repeat(with_reducible refine And.intro ?_ ?_;focus first|omega|rfl|assumption|exact⟨_,rfl,rfl⟩|(simp;omega)|(simp;done)))
 ·have hi':i<t.aC.length:=by omega
  have hm:=List.getElem_mem hi';have hcz:=um hm;have hce:=aF.sum t.aC[i];rw[fJ] at hce;obtain⟨q1,q2,q3⟩:=ni (hso _ hm);have hst:=hTs i hi'
  (repeat(with_reducible refine And.intro ?_ ?_;focus first|omega|rfl|assumption|exact⟨_,rfl,rfl⟩|(simp;omega)|(simp;done)))
  refine au (bQ _) ?_;simp -implicitDefEqProofs (disch:=omega) only[go_sem];refine au (Cq t.aC[i].bL (by omega) (fun u hu=>by have:=uj hu;omega)) ?_;simp -implicitDefEqProofs (disch:=omega) only[go_sem];refine au (wT t.aC[i].bP (by omega)) ?_;simp -implicitDefEqProofs (disch:=omega) only[go_sem];refine iI [false] rfl (o9 _ (by simp) (by simp) _ _) ?_;simp -implicitDefEqProofs (disch:=omega) only[go_sem]
  with_reducible refine aA (fun hb=> ?_) (fun hb=> ?_)<;>have h:=hb<;>(try simp only[wf_preprocess] at h)<;>simp -implicitDefEqProofs (disch:=omega) only[go_sem,hb]<;>(repeat(with_reducible refine And.intro ?_ ?_;focus first|omega|rfl|assumption|exact⟨_,rfl,rfl⟩|(simp;omega)|(simp;done)))
  ·rw[vN h] at hst;simp only[List.map_cons,List.map_nil,fP,qb,ah.aB (dK t.aC[i].bP),ah.aB (dZ t.aC[i].fBody)] at hst;refine au (iZ t.aC[i].aX (by omega)) ?_;simp -implicitDefEqProofs (disch:=omega) only[go_sem];refine au (Em t.aC[i].fBody (q3 h) (by omega)) ?_;simp -implicitDefEqProofs (disch:=omega) only[go_sem]
   (repeat(with_reducible refine And.intro ?_ ?_;focus first|omega|rfl|assumption|exact⟨_,rfl,rfl⟩|(simp;omega)|(simp;done)))
   rw[hst];exact dD 5 (by decide) (i+1) (by omega) rfl rfl rfl rfl (by omega)
  ·rw[vO h] at hst;simp only[List.map_cons,List.map_nil,fP,qb,ah.aB (dK t.aC[i].bP)] at hst
   (repeat(with_reducible refine And.intro ?_ ?_;focus first|omega|rfl|assumption|exact⟨_,rfl,rfl⟩|(simp;omega)|(simp;done)))
   rw[hst];exact dD 5 (by decide) (i+1) (by omega) rfl rfl rfl rfl (by omega)
 ·have hi':i=t.aC.length:=by omega
  subst hi';rw[hTe];refine au (Eh true (kV t) (by omega)) ?_;simp -implicitDefEqProofs (disch:=omega) only[go_sem];rfl
theorem zX(t:aU)(hsz:t.sz<=1048576):aG prog 18 [t.v] (iF t).v:=by
 unfold iF
 cases hv:cZ t with
 |false=>
  rw[uU];refine aG.less (fun S=> ?_) (KI [] []);refine zcx [.cell 2 39] func18 ntmps18 ?_;simp -implicitDefEqProofs (disch:=omega) only[go_sem];refine au (mK t (by omega)) ?_;simp -implicitDefEqProofs (disch:=omega) only[go_sem,hv]
 |true=>
  rw[uU];have hb:=(gN hv).2
  cases ha:t.jR with
  |true=>
   cases hs:t.eX with
   |true=>exact absurd ⟨ha,hs⟩ hb
   |false=>exact abP t hv hsz ha hs
  |false=>
   cases hs:t.eX with
   |true=>exact abQ t hv hsz ha hs
   |false=>exact abR t hv hsz ha hs
end Go.Ab