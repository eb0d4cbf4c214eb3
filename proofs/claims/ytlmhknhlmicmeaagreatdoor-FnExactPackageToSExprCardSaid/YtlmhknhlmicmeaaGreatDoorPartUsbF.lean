/-
  SEVERAL TEXTS IN ONE (merged by program): contracts and models, each with its own heading.
-/
import Derived.Test.YtlmhknhlmicmeaaGreatDoorPartUsbE
set_option linter.unusedSimpArgs false
set_option linter.unusedVariables false
set_option maxRecDepth 4000
set_option maxRecDepth 8000
namespace Go.Ab
noncomputable def j4(t:bn):List (List UInt8):=t.aD.map aR.fName
noncomputable def tJ(t:bn):Prop:=t.ou=true∧(t.bY=true∨0<t.aD.length∨0<t.bN.length)
noncomputable def dV(t:bn):Bool:=
 validName t.fName&&(dec (t.bN.length≤4)&&(iA t.bN&&(dec (t.aD.length≤6)&&(!dec (tJ t)&&(t.aD.all iw&&dec (j4 t).Nodup)))))
theorem bn.sum(x:bn):x.fName.length+(x.bN.length+aI (x.bN.map encS))+(x.aD.length+aI (x.aD.map aR.enc))≤x.sz:=by
 simp only[bn.sz,bn.aC,bP,bA,D.sz,List.length_map]
 omega
theorem uX{xs:List aR}{t:aR}(h:t∈xs):t.sz≤aI (xs.map aR.enc):=bI (List.mem_map_of_mem h)
theorem Ur{g:aR}(h:iw g=true):validName g.fName=true:=by
 unfold iw at h
 rw[Bool.and_eq_true] at h
 exact h.1
theorem QO{t:bn}(h:t.aD.all iw=true):(j4 t).all validName=true:=by
 unfold j4
 rw[List.all_map]
 refine List.all_eq_true.2 fun g hg=>Ur (List.all_eq_true.1 h g hg)
end Go.Ab
namespace Go.Proofs.YtlmhknhlmicmeaaGreatDoor
open Go Go.Ab
theorem EH(t:bn)(hsz:t.sz≤4194304):aG Tryz.prog 139 [t.v] (.c (.d (.b (dV t)))):=fun S=>by
 have hs:=bn.sum t
 have hV:∀s∈t.bN,s.length≤4194304:=fun s h=>by have:=pG h;omega
 have hG:∀g∈t.aD,g.sz≤4194304:=fun g h=>by have:=uX h;omega
 refine(show Hold ((validName t.fName=true∧t.bN.length≤4∧iA t.bN=true∧t.aD.length≤6∧¬tJ t)→ ?T)→_ from fun tail=> ?main) ?tp
 case' main=>
  refine aA (rs:=[.tmp 2]) Tryz.checked.mixed Tryz.func139 Tryz.ntmps139 rfl rfl rfl rfl rfl ?_
  first|refine W1 ?_|exact Z1
  refine ah (gJ t.fName (by omega)) ?_
  first|refine W2 ?_|exact Z2
  first|refine S0 (fun hb h=>?_) (fun hb h=>?_)|refine S1 fun hb h=>?_|refine S2 fun hb h=>?_|exact S3
  ·exact aB (by unfold dV;rw[h];rfl)
  have h1:=h
  first|refine S0 (fun hb h=>?_) (fun hb h=>?_)|refine S1 fun hb h=>?_|refine S2 fun hb h=>?_|exact S3
  ·exact aB (by unfold dV;rw[aH (show ¬t.bN.length≤4 by omega)];simp)
  have h2:=h
  refine W3 ?_
  refine ah (nA t.bN (by omega) hV) ?_
  first|refine W2 ?_|exact Z2
  first|refine S0 (fun hb h=>?_) (fun hb h=>?_)|refine S1 fun hb h=>?_|refine S2 fun hb h=>?_|exact S3
  ·exact aB (by unfold dV;rw[h];simp)
  have h3:=h
  first|refine S0 (fun hb h=>?_) (fun hb h=>?_)|refine S1 fun hb h=>?_|refine S2 fun hb h=>?_|exact S3
  ·exact aB (by unfold dV;rw[aH (show ¬t.aD.length≤6 by omega)];simp)
  have h4:=h
  have bad:tJ t→V.c (.d (.b false))=V.c (.d (.b (dV t))):=fun h=>aB (by unfold dV;rw[bJ h];simp)
  have pre:¬tJ t→(validName t.fName=true∧t.bN.length≤4∧iA t.bN=true∧t.aD.length≤6∧¬tJ t):=fun h=>⟨h1,by omega,h3,by omega,h⟩
  repeat' (first|with_reducible refine aS (fun hb=> ?_) (fun hb=> ?_)<;>have h:=hb<;>(try simp only[wf_preprocess] at h)<;>simp -implicitDefEqProofs (disch:=omega) only[go_sem,hb]<;>(repeat(with_reducible refine And.intro ?_ ?_;focus first|omega|rfl|assumption|exact⟨_,rfl,rfl⟩|(simp;omega)|(simp;done))))
  all_goals first
   |(refine bad ⟨by assumption,?_⟩;first|exact .inl (by assumption)|exact .inr (.inl (by omega))|exact .inr (.inr (by omega)))
   |skip
  all_goals
   have na:¬tJ t:=fun x=>by
    obtain⟨x1,x2⟩:=x
    rcases x2 with x2|x2|x2<;>first|omega|simp_all
   refine W3 ?_
   refine oL 3 1 [] rfl (by simp) ?_
   refine pW (st':=[.box (t.enc.map .d),.tok 1 []]::S) [3,48,49,50] [.c (.bU (0,1) []),.c (.d (.sl (t.aD.map aR.enc))),.c (.d (.i .i64 t.aD.length)),.c (.d (.i .i64 0))] ?_ ?_ ?_
   ·rfl
   ·first|(simp -implicitDefEqProofs (disch:=omega) only[go_sem];done)|(simp -implicitDefEqProofs (disch:=omega) only[go_sem];simp[*])
   ·exact tail.out (pre na)
 refine⟨fun hp=> ?_⟩
 obtain⟨h1,h2,h3,h4,h5⟩:=hp
 have bad:∀i,∀hi:i<t.aD.length,iw t.aD[i]=false→dV t=false:=fun i hi h=>by
  have:t.aD.all iw=false:=Bool.eq_false_iff.2 fun hx=>by
   rw[List.all_eq_true.1 hx _ (List.getElem_mem hi)] at h;cases h
  unfold dV
  rw[this];simp
 refine aV (ι:=Nat×List (List UInt8)) Tryz.checked.mixed rfl [3,48,49,50] (fun y=>[.c (.bU (0,1) (y.2.map encS)),.c (.d (.sl (t.aD.map aR.enc))),.c (.d (.i .i64 t.aD.length)),.c (.d (.i .i64 y.1))]) (fun y=>[.box (t.enc.map .d),.tok 1 (y.2.map encS)]::S)
  (fun y=>y.1≤t.aD.length∧y.2=(j4 t).take y.1∧∀j,∀hj:j<t.aD.length,j<y.1→iw t.aD[j]=true) (fun y=>t.aD.length-y.1) (0,[]) rfl ?_ ⟨Nat.zero_le _,rfl,fun j _ h=>by simp only at h;omega⟩ ?_
 ·first|refine W1 ?_|exact Z1
 rintro⟨i,names⟩ ⟨p1,p2,p3⟩
 simp only at p1 p2 p3
 have pl:names.length≤t.aD.length:=by rw[p2];simp[j4];omega
 first|refine W1 ?_|exact Z1
 with_reducible refine aS (fun hb=> ?_) (fun hb=> ?_)<;>have h:=hb<;>(try simp only[wf_preprocess] at h)<;>simp -implicitDefEqProofs (disch:=omega) only[go_sem,hb]<;>(repeat(with_reducible refine And.intro ?_ ?_;focus first|omega|rfl|assumption|exact⟨_,rfl,rfl⟩|(simp;omega)|(simp;done)))
 ·have hi:i<t.aD.length:=by omega
  refine W3 ?_
  refine ah (J6 t.aD[i] (hG _ (List.getElem_mem hi))) ?_
  first|refine W2 ?_|exact Z2
  first|refine S0 (fun hb h=>?_) (fun hb h=>?_)|refine S1 fun hb h=>?_|refine S2 fun hb h=>?_|exact S3
  ·rw[bad i hi h]
  have k2:=h
  refine W3 ?_
  rw[show List.map encS names++[[D.s t.aD[i].fName]]=List.map encS (names++[t.aD[i].fName]) by simp[encS]]
  exact dz 2 (by decide) (i+1,names++[t.aD[i].fName]) (by simp only;omega) rfl rfl rfl rfl ⟨by simp only;omega,by simp only;rw[p2,gW (by simpa [j4] using hi)];simp[j4],fun j hj hji=>by
   simp only at hji
   by_cases e:j=i
   ·subst e;exact k2
   ·exact p3 j hj (by omega)⟩
 have hi:i=t.aD.length:=by omega
 have hn:names=j4 t:=by rw[p2,List.take_of_length_le (by simp[j4];omega)]
 have hall:t.aD.all iw=true:=List.all_eq_true.2 fun c hc=>by
  obtain⟨j,hj,e⟩:=List.getElem_of_mem hc
  rw[←e];exact p3 j hj (by omega)
 refine ah (nP names (by omega)) ?_
 first|refine W2 ?_|exact Z2
 exact aB (by unfold dV;rw[h1,h3,hall,←hn,bJ h2,bJ h4,aH h5];simp)
theorem om(t:bn)(hsz:t.sz≤4194304):aG Tryz.prog 157 [t.v] (.c (.d (.b (dV t)))):=fun S=>by
 have hs:=bn.sum t
 have hV:∀s∈t.bN,s.length≤4194304:=fun s h=>by have:=pG h;omega
 have hG:∀g∈t.aD,g.sz≤4194304:=fun g h=>by have:=uX h;omega
 have bad:∀i,∀hi:i<t.aD.length,iw t.aD[i]=false→dV t=false:=fun i hi h=>by
  have:t.aD.all iw=false:=Bool.eq_false_iff.2 fun hx=>by
   rw[List.all_eq_true.1 hx _ (List.getElem_mem hi)] at h;cases h
  unfold dV
  rw[this];simp
 have agv:tJ t→V.c (.d (.b false))=V.c (.d (.b (dV t))):=fun h=>aB (by unfold dV;rw[bJ h];simp)
 refine aA (rs:=[.tmp 2]) Tryz.checked.mixed Tryz.func157 Tryz.ntmps157 rfl rfl rfl rfl rfl ?_
 first|refine W1 ?_|exact Z1
 refine W3 ?_
 refine oL 3 1 [] rfl (by simp) ?_
 refine aV (ι:=Nat×List (List UInt8)) Tryz.checked.mixed rfl [1,3,4] (fun y=>[.c (.ptr (0,0) 0),.c (.bU (0,1) (y.2.map encS)),.c (.d (.i .i64 y.1))]) (fun y=>[.box (t.enc.map .d),.tok 1 (y.2.map encS)]::S)
  (fun y=>y.1≤t.aD.length∧y.2=(j4 t).take y.1∧∀j,∀hj:j<t.aD.length,j<y.1→iw t.aD[j]=true) (fun y=>t.aD.length-y.1) (0,[]) rfl ?_ ⟨Nat.zero_le _,rfl,fun j _ h=>by simp only at h;omega⟩ ?_
 ·first|refine W1 ?_|exact Z1
 rintro⟨i,names⟩ ⟨p1,p2,p3⟩
 simp only at p1 p2 p3
 have pl:names.length≤t.aD.length:=by rw[p2];simp[j4];omega
 first|refine W1 ?_|exact Z1
 with_reducible refine aS (fun hb=> ?_) (fun hb=> ?_)<;>have h:=hb<;>(try simp only[wf_preprocess] at h)<;>simp -implicitDefEqProofs (disch:=omega) only[go_sem,hb]<;>(repeat(with_reducible refine And.intro ?_ ?_;focus first|omega|rfl|assumption|exact⟨_,rfl,rfl⟩|(simp;omega)|(simp;done)))
 ·have hi:i<t.aD.length:=by omega
  refine W3 ?_
  refine ah (WL t.aD[i] (hG _ (List.getElem_mem hi))) ?_
  first|refine W2 ?_|exact Z2
  first|refine S0 (fun hb h=>?_) (fun hb h=>?_)|refine S1 fun hb h=>?_|refine S2 fun hb h=>?_|exact S3
  ·rw[bad i hi h]
  have k2:=h
  refine W3 ?_
  rw[show List.map encS names++[[D.s t.aD[i].fName]]=List.map encS (names++[t.aD[i].fName]) by simp[encS]]
  exact bL (i+1,names++[t.aD[i].fName]) (by simp only;omega) rfl rfl ⟨by simp only;omega,by simp only;rw[p2,gW (by simpa [j4] using hi)];simp[j4],fun j hj hji=>by
   simp only at hji
   by_cases e:j=i
   ·subst e;exact k2
   ·exact p3 j hj (by omega)⟩
 have hi:i=t.aD.length:=by omega
 have hn:names=j4 t:=by rw[p2,List.take_of_length_le (by simp[j4];omega)]
 have hall:t.aD.all iw=true:=List.all_eq_true.2 fun c hc=>by
  obtain⟨j,hj,e⟩:=List.getElem_of_mem hc
  rw[←e];exact p3 j hj (by omega)
 have GD:=QO hall
 have hnl:∀s∈names,s.length≤4194304:=fun s hm=>by
  rw[hn] at hm
  obtain⟨g,hg,e⟩:=List.mem_map.1 hm
  have:=hG g hg
  have:=aR.sum g
  rw[←e]
  omega
 have hlen:names.length=t.aD.length:=by rw[hn];simp[j4]
 clear bad p2 p3
 repeat' (first|with_reducible refine aS (fun hb=> ?_) (fun hb=> ?_)<;>have h:=hb<;>(try simp only[wf_preprocess] at h)<;>simp -implicitDefEqProofs (disch:=omega) only[go_sem,hb]<;>(repeat(with_reducible refine And.intro ?_ ?_;focus first|omega|rfl|assumption|exact⟨_,rfl,rfl⟩|(simp;omega)|(simp;done))))
 all_goals first
  |(refine agv ⟨by assumption,?_⟩;first|exact .inl (by assumption)|exact .inr (.inl (by omega))|exact .inr (.inr (by omega)))
  |skip
 all_goals
  have na:¬tJ t:=fun x=>by
   obtain⟨x1,x2⟩:=x
   rcases x2 with x2|x2|x2<;>first|omega|simp_all
  refine W3 ?_
  refine ah (gK t.fName (by omega)) ?_
  first|refine W1 ?_|exact Z1
  first|refine S0 (fun hb h=>?_) (fun hb h=>?_)|refine S1 fun hb h=>?_|refine S2 fun hb h=>?_|exact S3
  ·have h1:=h
   refine W3 ?_
   refine ah (kK t.bN 4 (by omega) hV) ?_
   first|refine W2 ?_|exact Z2
   first|refine S0 (fun hb h=>?_) (fun hb h=>?_)|refine S1 fun hb h=>?_|refine S2 fun hb h=>?_|exact S3
   ·have h2:=h
    rw[Bool.and_eq_true] at h2
    have h3:=ji h2.1
    refine ah (kK names 6 (by omega) hnl) ?_
    first|refine W2 ?_|exact Z2
    refine aB ?_
    unfold dV
    rw[h1,h2.2,hall,aH na,bJ (show t.bN.length≤4 by omega),hlen]
    unfold iA
    rw[hn,GD,Bool.and_true]
    simp only[Bool.true_and,Bool.not_false]
    congr 1
    exact iJ ⟨fun h=>by omega,fun h=>by omega⟩
   ·refine aB ?_
    unfold dV
    have h2:(dec (t.bN.length≤4)&&iA t.bN)=false:=by
     rw[←h];congr 1;exact iJ ⟨fun h=>by omega,fun h=>by omega⟩
    rw[←Bool.and_assoc (dec (t.bN.length≤4)),h2];simp
  ·exact aB (by unfold dV;rw[h];rfl)
end Go.Proofs.YtlmhknhlmicmeaaGreatDoor
namespace Go.Ab
def yC:List UInt8:=[97,117,116,111]
def xH:List UInt8:=[116,114,97,105,116]
def oo(t:bn):List (List UInt8):=(if t.ou=true then [yC] else [])++(if t.bY=true then [kX] else [])
def mQ(g:aR):ak:=cO ([cu g.fName,cO (g.aY.map dA),dA g.bO]++if g.iD=true then [cO (bf g.aF),fH g.fBody] else [])
theorem Rz(n:Nat)(es:List (List D)):Less (.c (.d (.ol n es))) (.c (.d (.sl es))):=fun w σ S β v h=>⟨w9 h.1,h.2⟩
def iF(t:bn):List ak:=[cu xH,cu t.fName,cO (bf t.bN),cO (bf (oo t))]
def mZ(t:bn):ak:=cO (iF t++t.aD.map mQ)
noncomputable def uq(x:bn):ak:=sH (dV x) (mZ x)
theorem yI{g:aR}(h:g.iD=true):(mQ g).bF=[cu g.fName,cO (g.aY.map dA),dA g.bO,cO (bf g.aF),fH g.fBody]:=by rw[mQ,if_pos h];rfl
theorem yJ{g:aR}(h:g.iD=false):(mQ g).bF=[cu g.fName,cO (g.aY.map dA),dA g.bO]:=by rw[mQ,if_neg (by rw[h];decide)];rfl
theorem wJ(g:aR):(mQ g).dI=[]:=rfl
theorem pX{g:aR}(h:iw g=true):jm g.aY=true∧formed g.bO=true∧(g.iD=true→iE g.fBody=true):=by
 unfold iw at h
 simp only[Bool.and_eq_true] at h
 obtain⟨_,_,h1,h2,h3⟩:=h
 refine⟨uG h1,rX h2,fun hd=> ?_⟩
 rw[if_pos hd,Bool.and_eq_true] at h3
 exact DU h3.2
theorem acu(g:aR)(hok:iw g=true):(mQ g).sz≤48+32*g.sz:=by
 obtain⟨_,_,hb⟩:=pX hok
 have h1:=Ho g.aY
 have h2:=xC g.bO
 have h3:=aR.sum g
 rw[dM,za] at h3
 by_cases hd:g.iD=true
 ·have h4:=Dq g.fBody (hb hd)
  rw[mQ,if_pos hd,iY]
  simp[gq,jo,iY,iR,oD];omega
 ·rw[mQ,if_neg hd,iY]
  simp[gq,jo,iY,iR,oD];omega
theorem RA:∀l:List aR,(∀g∈l,iw g=true)→gq (l.map mQ)≤48*l.length+32*aI (l.map aR.enc)
 |[],_=>by simp[gq]
 |c::l,h=>by
  have h1:=acu c (h c (List.mem_cons_self ..))
  have h2:=RA l fun g hg=>h g (List.mem_cons_of_mem _ hg)
  rw[List.map_cons,gq,List.map_cons,aI,List.length_cons];simp only[aR.sz] at h1;omega
theorem jv{t:bn}(h:dV t=true):(∀g∈t.aD,iw g=true)∧¬(t.ou=true∧t.bY=true):=by
 unfold dV at h
 simp only[Bool.and_eq_true,Bool.not_eq_true'] at h
 obtain⟨_,_,_,_,h1,h2,_⟩:=h
 refine⟨fun g hg=>List.all_eq_true.1 h2 g hg,fun hh=> ?_⟩
 rw[bJ (show tJ t from⟨hh.1,.inl hh.2⟩)] at h1
 cases h1
theorem WQ(t:bn):(oo t).length≤2∧((oo t).map List.length).sum≤9:=by
 unfold oo;split<;>split<;>simp[yC,kX]
theorem Ew{t:bn}(hok:dV t=true):(mZ t).sz≤64+49*t.sz:=by
 have h1:=RA t.aD (jv hok).1
 have h2:=WQ t
 have h3:=bn.sum t
 rw[dM] at h3
 rw[mZ,iY,gZ,List.length_append,List.length_map]
 simp[iF,gq,jo,iY,iR,oD,xH];omega
theorem Ad(n:Nat)(a b:List UInt8)(w v:List (List UInt8)):lx [cu a,cu b,cO (bf w),cO (bf v)] (n+1)=[[.s a,.ol (n+1) []],[.s b,.ol (n+1+1) []],[.s [],.ol (n+1+1+1) (lx (bf w) (n+1+1+1+1))],[.s [],.ol (n+1+1+1+dL (cO (bf w))) (lx (bf v) (n+1+1+1+dL (cO (bf w))+1))]]:=by
 simp only[iN,lq,iM,jG,jH,dX,dF,jl]
end Go.Ab
namespace Go.Proofs.YtlmhknhlmicmeaaGreatDoor
open Go Go.Ab
theorem QS(t:bn)(n:Nat)(hv:dV t=true)(hsz:t.sz≤1048576)(ha:t.ou=true)(hs:t.bY=false):aG Tryz.prog 69 [t.v] (.agg [.d (.s []),.d (.ol n (lx (mZ t).bF (n+1)))]):=fun S=>by
 have hdz:=bn.sum t
 rw[dM] at hdz
 obtain⟨hso,_⟩:=jv hv
 have hfl:oo t=[yC]:=by unfold oo;rw[ha,hs];rfl
 obtain⟨L,hL⟩:∃L:Nat→Nat,L=fun i=>n+1+gT (iF t++(t.aD.map mQ).take i):=⟨_,rfl⟩
 obtain⟨T,hT⟩:∃T:Nat→List (List D),T=fun i=>lx (iF t++(t.aD.map mQ).take i) (n+1):=⟨_,rfl⟩
 have hT0:T 0=[[.s xH,.ol (n+1) []],[.s t.fName,.ol (n+1+1) []],[.s [],.ol (n+1+1+1) (lx (bf t.bN) (n+1+1+1+1))],[.s [],.ol (n+1+1+1+dL (cO (bf t.bN))) (lx (bf [yC]) (n+1+1+1+dL (cO (bf t.bN))+1))]]:=by
  rw[hT];simp only[List.take_zero,List.append_nil,iF,hfl];exact Ad _ _ _ _ _
 have eO:∀i,(T i).length≤i+4:=fun i=>by
  rw[hT];simp only[fK,List.length_append]
  have:=List.length_take_le i (t.aD.map mQ)
  simp[iF];omega
 have hTs:∀i (hi:i<t.aD.length),T i++[[.s [],.ol (L i) (lx (mQ t.aD[i]).bF (L i+1))]]=T (i+1):=fun i hi=>by
  have:=wG (base:=iF t) (l:=t.aD.map mQ) (i:=i) (by rw[List.length_map];exact hi) (n+1)
  rw[List.getElem_map,wJ] at this
  rw[hT,hL];exact this
 have hTr:∀i,∀r∈T i,r.length=2:=fun i=>by rw[hT];exact jB
 have hTe:T t.aD.length=lx (mZ t).bF (n+1):=by
  rw[hT];simp only
  rw[List.take_of_length_le (by simp)];rfl
 clear hT hL
 refine oz (n) 1 (rs:=[.cell 2 32]) Tryz.checked.mixed Tryz.func69 Tryz.ntmps69 rfl rfl rfl rfl rfl ?_
 simp -implicitDefEqProofs (disch:=omega) only[go_sem,ha,hs]
 (repeat(with_reducible refine And.intro ?_ ?_;focus first|omega|rfl|assumption|exact⟨_,rfl,rfl⟩|(simp;omega)|(simp;done)))
 refine ah (dx _ (n+1)) ?_
 first|refine W1 ?_|exact Z1
 refine ah (dx _ (n+1+1)) ?_
 first|refine W1 ?_|exact Z1
 refine ah (dZ t.bN (by omega) (n+1+1+1)) ?_
 first|refine W1 ?_|exact Z1
 refine q9 (dZ [yC] (by simp) (n+1+1+1+dL (cO (bf t.bN)))) (.cons (Rz n _) .nil) ?_
 first|refine W1 ?_|exact Z1
 refine W3 ?_
 refine mh n 4 2 (T 0) (.inl ?_) (hTr 0) ?_
 ·rw[hT0];rfl
 refine mE (L 0) ?_
 refine aV (ι:=Nat) Tryz.checked.mixed rfl [2,4,30,31,32] (fun i=>[.c (.ptr (0,3) 0),.c (.bU (0,4) (T i)),.c (.d (.sl (t.aD.map aR.enc))),.c (.d (.i .i64 t.aD.length)),.c (.d (.i .i64 i))])
  (fun i=>[.seed (L i),.seed 1,.box [.d (.s t.fName),.d (.sl (t.bN.map encS)),.d (.b true),.d (.b false),.d (.sl (t.aD.map aR.enc))],.box [.d (.s []),.bD []],.fB n 2 (T i)]::S)
  (fun i=>i≤t.aD.length) (fun i=>t.aD.length-i) 0 rfl rfl (Nat.zero_le _) ?_
 intro i hi
 have hl:=eO i
 first|refine W1 ?_|exact Z1
 with_reducible refine aS (fun hb=> ?_) (fun hb=> ?_)<;>have h:=hb<;>(try simp only[wf_preprocess] at h)<;>simp -implicitDefEqProofs (disch:=omega) only[go_sem,hb]<;>(repeat(with_reducible refine And.intro ?_ ?_;focus first|omega|rfl|assumption|exact⟨_,rfl,rfl⟩|(simp;omega)|(simp;done)))
 ·have hi':i<t.aD.length:=by omega
  have hm:=List.getElem_mem hi'
  have hcz:=uX hm
  have hce:=aR.sum t.aD[i]
  rw[dM] at hce
  obtain⟨q1,q2,q3⟩:=pX (hso _ hm)
  have hst:=hTs i hi'
  refine W3 ?_
  refine ah (dx _ (L i+1)) ?_
  first|refine W1 ?_|exact Z1
  refine ah (wW t.aD[i].aY (L i+1+1) (L i+1+1+1) q1 (by omega) (fun u hu=>by have:=uW hu;omega)) ?_
  first|refine W1 ?_|exact Z1
  refine ah (jK _) ?_
  first|refine W1 ?_|exact Z1
  refine ah (jU t.aD[i].bO (L i+1+1+dL (cO (t.aD[i].aY.map dA))) q2 (by omega)) ?_
  first|refine W1 ?_|exact Z1
  first|refine S0 (fun hb h=>?_) (fun hb h=>?_)|refine S1 fun hb h=>?_|refine S2 fun hb h=>?_|exact S3
  ·rw[yI h] at hst
   simp only[iN,lq,iM,jG,jH,dX,dF,jl] at hst
   refine ah (dZ t.aD[i].aF (by omega) (L i+1+1+dL (cO (t.aD[i].aY.map dA))+dL (dA t.aD[i].bO))) ?_
   first|refine W1 ?_|exact Z1
   refine ah (vL t.aD[i].fBody (L i+1+1+dL (cO (t.aD[i].aY.map dA))+dL (dA t.aD[i].bO)+dL (cO (bf t.aD[i].aF))) (q3 h) (by omega)) ?_
   first|refine W1 ?_|exact Z1
   (repeat(with_reducible refine And.intro ?_ ?_;focus first|omega|rfl|assumption|exact⟨_,rfl,rfl⟩|(simp;omega)|(simp;done)))
   refine ah (jK _) ?_
   first|refine W1 ?_|exact Z1
   (repeat(with_reducible refine And.intro ?_ ?_;focus first|omega|rfl|assumption|exact⟨_,rfl,rfl⟩|(simp;omega)|(simp;done)))
   rw[hst]
   refine jD (L (i+1)) 4 (by decide) (i+1) (by omega) rfl rfl ?_ rfl (by omega)
   simp[gV,gy,V.refs,C.refs,jw]
  ·rw[yJ h] at hst
   simp only[iN,lq,iM,jG,jH,dX,dF,jl] at hst
   refine ah (l8 _ _) ?_
   first|refine W1 ?_|exact Z1
   (repeat(with_reducible refine And.intro ?_ ?_;focus first|omega|rfl|assumption|exact⟨_,rfl,rfl⟩|(simp;omega)|(simp;done)))
   rw[hst]
   refine jD (L (i+1)) 4 (by decide) (i+1) (by omega) rfl rfl ?_ rfl (by omega)
   simp[gV,gy,V.refs,C.refs,jw]
 ·have hi':i=t.aD.length:=by omega
  refine bV rfl (jr 0 4 _ _) ?_
  first|refine W1 ?_|exact Z1
  rw[hi',hTe]
theorem QT(t:bn)(n:Nat)(hv:dV t=true)(hsz:t.sz≤1048576)(ha:t.ou=false)(hs:t.bY=true):aG Tryz.prog 69 [t.v] (.agg [.d (.s []),.d (.ol n (lx (mZ t).bF (n+1)))]):=fun S=>by
 have hdz:=bn.sum t
 rw[dM] at hdz
 obtain⟨hso,_⟩:=jv hv
 have hfl:oo t=[kX]:=by unfold oo;rw[ha,hs];rfl
 obtain⟨L,hL⟩:∃L:Nat→Nat,L=fun i=>n+1+gT (iF t++(t.aD.map mQ).take i):=⟨_,rfl⟩
 obtain⟨T,hT⟩:∃T:Nat→List (List D),T=fun i=>lx (iF t++(t.aD.map mQ).take i) (n+1):=⟨_,rfl⟩
 have hT0:T 0=[[.s xH,.ol (n+1) []],[.s t.fName,.ol (n+1+1) []],[.s [],.ol (n+1+1+1) (lx (bf t.bN) (n+1+1+1+1))],[.s [],.ol (n+1+1+1+dL (cO (bf t.bN))) (lx (bf [kX]) (n+1+1+1+dL (cO (bf t.bN))+1))]]:=by
  rw[hT];simp only[List.take_zero,List.append_nil,iF,hfl];exact Ad _ _ _ _ _
 have eO:∀i,(T i).length≤i+4:=fun i=>by
  rw[hT];simp only[fK,List.length_append]
  have:=List.length_take_le i (t.aD.map mQ)
  simp[iF];omega
 have hTs:∀i (hi:i<t.aD.length),T i++[[.s [],.ol (L i) (lx (mQ t.aD[i]).bF (L i+1))]]=T (i+1):=fun i hi=>by
  have:=wG (base:=iF t) (l:=t.aD.map mQ) (i:=i) (by rw[List.length_map];exact hi) (n+1)
  rw[List.getElem_map,wJ] at this
  rw[hT,hL];exact this
 have hTr:∀i,∀r∈T i,r.length=2:=fun i=>by rw[hT];exact jB
 have hTe:T t.aD.length=lx (mZ t).bF (n+1):=by
  rw[hT];simp only
  rw[List.take_of_length_le (by simp)];rfl
 clear hT hL
 refine oz (n) 1 (rs:=[.cell 2 32]) Tryz.checked.mixed Tryz.func69 Tryz.ntmps69 rfl rfl rfl rfl rfl ?_
 simp -implicitDefEqProofs (disch:=omega) only[go_sem,ha,hs]
 (repeat(with_reducible refine And.intro ?_ ?_;focus first|omega|rfl|assumption|exact⟨_,rfl,rfl⟩|(simp;omega)|(simp;done)))
 refine ah (dx _ (n+1)) ?_
 first|refine W1 ?_|exact Z1
 refine ah (dx _ (n+1+1)) ?_
 first|refine W1 ?_|exact Z1
 refine ah (dZ t.bN (by omega) (n+1+1+1)) ?_
 first|refine W1 ?_|exact Z1
 refine q9 (dZ [kX] (by simp) (n+1+1+1+dL (cO (bf t.bN)))) (.cons (Rz n _) .nil) ?_
 first|refine W1 ?_|exact Z1
 refine W3 ?_
 refine mh n 4 2 (T 0) (.inl ?_) (hTr 0) ?_
 ·rw[hT0];rfl
 refine mE (L 0) ?_
 refine aV (ι:=Nat) Tryz.checked.mixed rfl [2,4,30,31,32] (fun i=>[.c (.ptr (0,3) 0),.c (.bU (0,4) (T i)),.c (.d (.sl (t.aD.map aR.enc))),.c (.d (.i .i64 t.aD.length)),.c (.d (.i .i64 i))])
  (fun i=>[.seed (L i),.seed 1,.box [.d (.s t.fName),.d (.sl (t.bN.map encS)),.d (.b false),.d (.b true),.d (.sl (t.aD.map aR.enc))],.box [.d (.s []),.bD []],.fB n 2 (T i)]::S)
  (fun i=>i≤t.aD.length) (fun i=>t.aD.length-i) 0 rfl rfl (Nat.zero_le _) ?_
 intro i hi
 have hl:=eO i
 first|refine W1 ?_|exact Z1
 with_reducible refine aS (fun hb=> ?_) (fun hb=> ?_)<;>have h:=hb<;>(try simp only[wf_preprocess] at h)<;>simp -implicitDefEqProofs (disch:=omega) only[go_sem,hb]<;>(repeat(with_reducible refine And.intro ?_ ?_;focus first|omega|rfl|assumption|exact⟨_,rfl,rfl⟩|(simp;omega)|(simp;done)))
 ·have hi':i<t.aD.length:=by omega
  have hm:=List.getElem_mem hi'
  have hcz:=uX hm
  have hce:=aR.sum t.aD[i]
  rw[dM] at hce
  obtain⟨q1,q2,q3⟩:=pX (hso _ hm)
  have hst:=hTs i hi'
  refine W3 ?_
  refine ah (dx _ (L i+1)) ?_
  first|refine W1 ?_|exact Z1
  refine ah (wW t.aD[i].aY (L i+1+1) (L i+1+1+1) q1 (by omega) (fun u hu=>by have:=uW hu;omega)) ?_
  first|refine W1 ?_|exact Z1
  refine ah (jK _) ?_
  first|refine W1 ?_|exact Z1
  refine ah (jU t.aD[i].bO (L i+1+1+dL (cO (t.aD[i].aY.map dA))) q2 (by omega)) ?_
  first|refine W1 ?_|exact Z1
  first|refine S0 (fun hb h=>?_) (fun hb h=>?_)|refine S1 fun hb h=>?_|refine S2 fun hb h=>?_|exact S3
  ·rw[yI h] at hst
   simp only[iN,lq,iM,jG,jH,dX,dF,jl] at hst
   refine ah (dZ t.aD[i].aF (by omega) (L i+1+1+dL (cO (t.aD[i].aY.map dA))+dL (dA t.aD[i].bO))) ?_
   first|refine W1 ?_|exact Z1
   refine ah (vL t.aD[i].fBody (L i+1+1+dL (cO (t.aD[i].aY.map dA))+dL (dA t.aD[i].bO)+dL (cO (bf t.aD[i].aF))) (q3 h) (by omega)) ?_
   first|refine W1 ?_|exact Z1
   (repeat(with_reducible refine And.intro ?_ ?_;focus first|omega|rfl|assumption|exact⟨_,rfl,rfl⟩|(simp;omega)|(simp;done)))
   refine ah (jK _) ?_
   first|refine W1 ?_|exact Z1
   (repeat(with_reducible refine And.intro ?_ ?_;focus first|omega|rfl|assumption|exact⟨_,rfl,rfl⟩|(simp;omega)|(simp;done)))
   rw[hst]
   refine jD (L (i+1)) 4 (by decide) (i+1) (by omega) rfl rfl ?_ rfl (by omega)
   simp[gV,gy,V.refs,C.refs,jw]
  ·rw[yJ h] at hst
   simp only[iN,lq,iM,jG,jH,dX,dF,jl] at hst
   refine ah (l8 _ _) ?_
   first|refine W1 ?_|exact Z1
   (repeat(with_reducible refine And.intro ?_ ?_;focus first|omega|rfl|assumption|exact⟨_,rfl,rfl⟩|(simp;omega)|(simp;done)))
   rw[hst]
   refine jD (L (i+1)) 4 (by decide) (i+1) (by omega) rfl rfl ?_ rfl (by omega)
   simp[gV,gy,V.refs,C.refs,jw]
 ·have hi':i=t.aD.length:=by omega
  refine bV rfl (jr 0 4 _ _) ?_
  first|refine W1 ?_|exact Z1
  rw[hi',hTe]
theorem QU(t:bn)(n:Nat)(hv:dV t=true)(hsz:t.sz≤1048576)(ha:t.ou=false)(hs:t.bY=false):aG Tryz.prog 69 [t.v] (.agg [.d (.s []),.d (.ol n (lx (mZ t).bF (n+1)))]):=fun S=>by
 have hdz:=bn.sum t
 rw[dM] at hdz
 obtain⟨hso,_⟩:=jv hv
 have hfl:oo t=[]:=by unfold oo;rw[ha,hs];rfl
 obtain⟨L,hL⟩:∃L:Nat→Nat,L=fun i=>n+1+gT (iF t++(t.aD.map mQ).take i):=⟨_,rfl⟩
 obtain⟨T,hT⟩:∃T:Nat→List (List D),T=fun i=>lx (iF t++(t.aD.map mQ).take i) (n+1):=⟨_,rfl⟩
 have hT0:T 0=[[.s xH,.ol (n+1) []],[.s t.fName,.ol (n+1+1) []],[.s [],.ol (n+1+1+1) (lx (bf t.bN) (n+1+1+1+1))],[.s [],.ol (n+1+1+1+dL (cO (bf t.bN))) (lx (bf []) (n+1+1+1+dL (cO (bf t.bN))+1))]]:=by
  rw[hT];simp only[List.take_zero,List.append_nil,iF,hfl];exact Ad _ _ _ _ _
 have eO:∀i,(T i).length≤i+4:=fun i=>by
  rw[hT];simp only[fK,List.length_append]
  have:=List.length_take_le i (t.aD.map mQ)
  simp[iF];omega
 have hTs:∀i (hi:i<t.aD.length),T i++[[.s [],.ol (L i) (lx (mQ t.aD[i]).bF (L i+1))]]=T (i+1):=fun i hi=>by
  have:=wG (base:=iF t) (l:=t.aD.map mQ) (i:=i) (by rw[List.length_map];exact hi) (n+1)
  rw[List.getElem_map,wJ] at this
  rw[hT,hL];exact this
 have hTr:∀i,∀r∈T i,r.length=2:=fun i=>by rw[hT];exact jB
 have hTe:T t.aD.length=lx (mZ t).bF (n+1):=by
  rw[hT];simp only
  rw[List.take_of_length_le (by simp)];rfl
 clear hT hL
 refine oz (n) 1 (rs:=[.cell 2 32]) Tryz.checked.mixed Tryz.func69 Tryz.ntmps69 rfl rfl rfl rfl rfl ?_
 simp -implicitDefEqProofs (disch:=omega) only[go_sem,ha,hs]
 refine W3 ?_
 refine ah (dx _ (n+1)) ?_
 first|refine W1 ?_|exact Z1
 refine ah (dx _ (n+1+1)) ?_
 first|refine W1 ?_|exact Z1
 refine ah (dZ t.bN (by omega) (n+1+1+1)) ?_
 first|refine W1 ?_|exact Z1
 refine q9 (dZ [] (by simp) (n+1+1+1+dL (cO (bf t.bN)))) (.cons (mG n _) .nil) ?_
 first|refine W1 ?_|exact Z1
 refine W3 ?_
 refine mh n 4 2 (T 0) (.inl ?_) (hTr 0) ?_
 ·rw[hT0];rfl
 refine mE (L 0) ?_
 refine aV (ι:=Nat) Tryz.checked.mixed rfl [2,4,30,31,32] (fun i=>[.c (.ptr (0,3) 0),.c (.bU (0,4) (T i)),.c (.d (.sl (t.aD.map aR.enc))),.c (.d (.i .i64 t.aD.length)),.c (.d (.i .i64 i))])
  (fun i=>[.seed (L i),.seed 1,.box [.d (.s t.fName),.d (.sl (t.bN.map encS)),.d (.b false),.d (.b false),.d (.sl (t.aD.map aR.enc))],.box [.d (.s []),.bD []],.fB n 2 (T i)]::S)
  (fun i=>i≤t.aD.length) (fun i=>t.aD.length-i) 0 rfl rfl (Nat.zero_le _) ?_
 intro i hi
 have hl:=eO i
 first|refine W1 ?_|exact Z1
 with_reducible refine aS (fun hb=> ?_) (fun hb=> ?_)<;>have h:=hb<;>(try simp only[wf_preprocess] at h)<;>simp -implicitDefEqProofs (disch:=omega) only[go_sem,hb]<;>(repeat(with_reducible refine And.intro ?_ ?_;focus first|omega|rfl|assumption|exact⟨_,rfl,rfl⟩|(simp;omega)|(simp;done)))
 ·have hi':i<t.aD.length:=by omega
  have hm:=List.getElem_mem hi'
  have hcz:=uX hm
  have hce:=aR.sum t.aD[i]
  rw[dM] at hce
  obtain⟨q1,q2,q3⟩:=pX (hso _ hm)
  have hst:=hTs i hi'
  refine W3 ?_
  refine ah (dx _ (L i+1)) ?_
  first|refine W1 ?_|exact Z1
  refine ah (wW t.aD[i].aY (L i+1+1) (L i+1+1+1) q1 (by omega) (fun u hu=>by have:=uW hu;omega)) ?_
  first|refine W1 ?_|exact Z1
  refine ah (jK _) ?_
  first|refine W1 ?_|exact Z1
  refine ah (jU t.aD[i].bO (L i+1+1+dL (cO (t.aD[i].aY.map dA))) q2 (by omega)) ?_
  first|refine W1 ?_|exact Z1
  first|refine S0 (fun hb h=>?_) (fun hb h=>?_)|refine S1 fun hb h=>?_|refine S2 fun hb h=>?_|exact S3
  ·rw[yI h] at hst
   simp only[iN,lq,iM,jG,jH,dX,dF,jl] at hst
   refine ah (dZ t.aD[i].aF (by omega) (L i+1+1+dL (cO (t.aD[i].aY.map dA))+dL (dA t.aD[i].bO))) ?_
   first|refine W1 ?_|exact Z1
   refine ah (vL t.aD[i].fBody (L i+1+1+dL (cO (t.aD[i].aY.map dA))+dL (dA t.aD[i].bO)+dL (cO (bf t.aD[i].aF))) (q3 h) (by omega)) ?_
   first|refine W1 ?_|exact Z1
   (repeat(with_reducible refine And.intro ?_ ?_;focus first|omega|rfl|assumption|exact⟨_,rfl,rfl⟩|(simp;omega)|(simp;done)))
   refine ah (jK _) ?_
   first|refine W1 ?_|exact Z1
   (repeat(with_reducible refine And.intro ?_ ?_;focus first|omega|rfl|assumption|exact⟨_,rfl,rfl⟩|(simp;omega)|(simp;done)))
   rw[hst]
   refine jD (L (i+1)) 4 (by decide) (i+1) (by omega) rfl rfl ?_ rfl (by omega)
   simp[gV,gy,V.refs,C.refs,jw]
  ·rw[yJ h] at hst
   simp only[iN,lq,iM,jG,jH,dX,dF,jl] at hst
   refine ah (l8 _ _) ?_
   first|refine W1 ?_|exact Z1
   (repeat(with_reducible refine And.intro ?_ ?_;focus first|omega|rfl|assumption|exact⟨_,rfl,rfl⟩|(simp;omega)|(simp;done)))
   rw[hst]
   refine jD (L (i+1)) 4 (by decide) (i+1) (by omega) rfl rfl ?_ rfl (by omega)
   simp[gV,gy,V.refs,C.refs,jw]
 ·have hi':i=t.aD.length:=by omega
  refine bV rfl (jr 0 4 _ _) ?_
  first|refine W1 ?_|exact Z1
  rw[hi',hTe]
theorem Ct(t:bn)(n:Nat)(hv:dV t=true)(hsz:t.sz≤1048576):aG Tryz.prog 69 [t.v] (.agg [.d (.s []),.d (.ol n (lx (mZ t).bF (n+1)))]):=by
 have hb:=(jv hv).2
 cases ha:t.ou with
 |true=>
  cases hs:t.bY with
  |true=>exact absurd ⟨ha,hs⟩ hb
  |false=>exact QS t n hv hsz ha hs
 |false=>
  cases hs:t.bY with
  |true=>exact QT t n hv hsz ha hs
  |false=>exact QU t n hv hsz ha hs
theorem Zb(t:bn)(hv:dV t=true)(hsz:t.sz≤1048576)(ha:t.ou=true)(hs:t.bY=false):aG Tryz.prog 56 [t.v] (rV (mZ t)).v:=fun S=>by
 have hdz:=bn.sum t
 rw[dM] at hdz
 obtain⟨hso,_⟩:=jv hv
 have hz:=Ew hv
 have hfl:oo t=[yC]:=by unfold oo;rw[ha,hs];rfl
 obtain⟨T,hT⟩:∃T:Nat→List (List D),T=fun i=>(iF t++(t.aD.map mQ).take i).map ak.enc:=⟨_,rfl⟩
 have hT0:T 0=[[.s xH,.sl []],[.s t.fName,.sl []],[.s [],.sl ((bf t.bN).map ak.enc)],[.s [],.sl ((bf [yC]).map ak.enc)]]:=by
  rw[hT];simp only[List.take_zero,List.append_nil,iF,hfl,List.map_cons,List.map_nil,eT,iK]
 have eO:∀i,(T i).length≤i+4:=fun i=>by
  rw[hT];simp only[List.length_map,List.length_append]
  have:=List.length_take_le i (t.aD.map mQ)
  simp[iF];omega
 have hTs:∀i (hi:i<t.aD.length),T i++[[.s [],.sl ((mQ t.aD[i]).bF.map ak.enc)]]=T (i+1):=fun i hi=>by
  have:=iB (base:=iF t) (l:=t.aD.map mQ) (i:=i) (by rw[List.length_map];exact hi)
  rw[List.getElem_map,wJ] at this
  rw[hT];exact this
 have hTr:∀i,∀r∈T i,r.length=2:=fun i=>by rw[hT];exact jE
 have hTe:T t.aD.length=(mZ t).bF.map ak.enc:=by
  rw[hT];simp only
  rw[List.take_of_length_le (by simp)];rfl
 clear hT
 refine aA (rs:=[.cell 2 32]) Tryz.checked.mixed Tryz.func56 Tryz.ntmps56 rfl rfl rfl rfl rfl ?_
 first|refine W1 ?_|exact Z1
 refine ah (om t (by omega)) ?_
 simp -implicitDefEqProofs (disch:=omega) only[go_sem,hv,ha,hs]
 (repeat(with_reducible refine And.intro ?_ ?_;focus first|omega|rfl|assumption|exact⟨_,rfl,rfl⟩|(simp;omega)|(simp;done)))
 refine ah (bW _) ?_
 first|refine W1 ?_|exact Z1
 refine ah (bW _) ?_
 first|refine W1 ?_|exact Z1
 refine ah (dU t.bN (by omega)) ?_
 first|refine W1 ?_|exact Z1
 refine ah (dU [yC] (by simp)) ?_
 first|refine W1 ?_|exact Z1
 have hE:=fun bT Ω=>iZ (T 0) (hTr 0) (by have:=eO 0;omega) bT Ω
 simp only[hT0] at hE
 refine lT [false] rfl (hE _ _) ?_
 first|refine W1 ?_|exact Z1
 refine aV (ι:=Nat) Tryz.checked.mixed rfl [1,2,4,5] (fun i=>[.c (.ptr (0,0) 0),.c (.ptr (0,1) 0),.c (.ptr (0,5) 0),.c (.d (.i .i64 i))])
  (fun i=>[.box [.d (.s t.fName),.d (.sl (t.bN.map encS)),.d (.b true),.d (.b false),.d (.sl (t.aD.map aR.enc))],.box [.d (.s []),.bD []],.tok 1 [[.s yC]],.box [.d (.s []),.bU (0,4) (T 0)],.tok 2 (T i),.box [.d (.s []),.bU (0,4) (T i)]]::S)
  (fun i=>i≤t.aD.length) (fun i=>t.aD.length-i) 0 rfl (by simp only[hT0]<;>(try rfl)) (Nat.zero_le _) ?_
 intro i hi
 have hl:=eO i
 first|refine W1 ?_|exact Z1
 with_reducible refine aS (fun hb=> ?_) (fun hb=> ?_)<;>have h:=hb<;>(try simp only[wf_preprocess] at h)<;>simp -implicitDefEqProofs (disch:=omega) only[go_sem,hb]<;>(repeat(with_reducible refine And.intro ?_ ?_;focus first|omega|rfl|assumption|exact⟨_,rfl,rfl⟩|(simp;omega)|(simp;done)))
 ·have hi':i<t.aD.length:=by omega
  have hm:=List.getElem_mem hi'
  have hcz:=uX hm
  have hce:=aR.sum t.aD[i]
  rw[dM] at hce
  obtain⟨q1,q2,q3⟩:=pX (hso _ hm)
  have hst:=hTs i hi'
  refine W3 ?_
  refine ah (bW _) ?_
  first|refine W1 ?_|exact Z1
  refine ah (yB t.aD[i].aY (by omega) (fun u hu=>by have:=uW hu;omega)) ?_
  first|refine W1 ?_|exact Z1
  refine ah (kC t.aD[i].bO (by omega)) ?_
  first|refine W1 ?_|exact Z1
  refine lT [false] rfl (iZ _ (by simp) (by simp) _ _) ?_
  first|refine W1 ?_|exact Z1
  first|refine S0 (fun hb h=>?_) (fun hb h=>?_)|refine S1 fun hb h=>?_|refine S2 fun hb h=>?_|exact S3
  ·rw[yI h] at hst
   simp only[List.map_cons,List.map_nil,eT,iK,ak.aC (dA t.aD[i].bO),ak.aC (fH t.aD[i].fBody)] at hst
   refine ah (dU t.aD[i].aF (by omega)) ?_
   first|refine W1 ?_|exact Z1
   refine ah (qC t.aD[i].fBody (q3 h) (by omega)) ?_
   first|refine W1 ?_|exact Z1
   (repeat(with_reducible refine And.intro ?_ ?_;focus first|omega|rfl|assumption|exact⟨_,rfl,rfl⟩|(simp;omega)|(simp;done)))
   rw[hst]
   exact dz 6 (by decide) (i+1) (by omega) rfl rfl rfl rfl (by omega)
  ·rw[yJ h] at hst
   simp only[List.map_cons,List.map_nil,eT,iK,ak.aC (dA t.aD[i].bO)] at hst
   refine W3 ?_
   rw[hst]
   exact dz 6 (by decide) (i+1) (by omega) rfl rfl rfl rfl (by omega)
 ·have hi':i=t.aD.length:=by omega
  subst hi'
  rw[hTe]
  refine ah (oF true (mZ t) (by omega)) ?_
  first|refine W1 ?_|exact Z1
  rfl
theorem Zc(t:bn)(hv:dV t=true)(hsz:t.sz≤1048576)(ha:t.ou=false)(hs:t.bY=true):aG Tryz.prog 56 [t.v] (rV (mZ t)).v:=fun S=>by
 have hdz:=bn.sum t
 rw[dM] at hdz
 obtain⟨hso,_⟩:=jv hv
 have hz:=Ew hv
 have hfl:oo t=[kX]:=by unfold oo;rw[ha,hs];rfl
 obtain⟨T,hT⟩:∃T:Nat→List (List D),T=fun i=>(iF t++(t.aD.map mQ).take i).map ak.enc:=⟨_,rfl⟩
 have hT0:T 0=[[.s xH,.sl []],[.s t.fName,.sl []],[.s [],.sl ((bf t.bN).map ak.enc)],[.s [],.sl ((bf [kX]).map ak.enc)]]:=by
  rw[hT];simp only[List.take_zero,List.append_nil,iF,hfl,List.map_cons,List.map_nil,eT,iK]
 have eO:∀i,(T i).length≤i+4:=fun i=>by
  rw[hT];simp only[List.length_map,List.length_append]
  have:=List.length_take_le i (t.aD.map mQ)
  simp[iF];omega
 have hTs:∀i (hi:i<t.aD.length),T i++[[.s [],.sl ((mQ t.aD[i]).bF.map ak.enc)]]=T (i+1):=fun i hi=>by
  have:=iB (base:=iF t) (l:=t.aD.map mQ) (i:=i) (by rw[List.length_map];exact hi)
  rw[List.getElem_map,wJ] at this
  rw[hT];exact this
 have hTr:∀i,∀r∈T i,r.length=2:=fun i=>by rw[hT];exact jE
 have hTe:T t.aD.length=(mZ t).bF.map ak.enc:=by
  rw[hT];simp only
  rw[List.take_of_length_le (by simp)];rfl
 clear hT
 refine aA (rs:=[.cell 2 32]) Tryz.checked.mixed Tryz.func56 Tryz.ntmps56 rfl rfl rfl rfl rfl ?_
 first|refine W1 ?_|exact Z1
 refine ah (om t (by omega)) ?_
 simp -implicitDefEqProofs (disch:=omega) only[go_sem,hv,ha,hs]
 (repeat(with_reducible refine And.intro ?_ ?_;focus first|omega|rfl|assumption|exact⟨_,rfl,rfl⟩|(simp;omega)|(simp;done)))
 refine ah (bW _) ?_
 first|refine W1 ?_|exact Z1
 refine ah (bW _) ?_
 first|refine W1 ?_|exact Z1
 refine ah (dU t.bN (by omega)) ?_
 first|refine W1 ?_|exact Z1
 refine ah (dU [kX] (by simp)) ?_
 first|refine W1 ?_|exact Z1
 have hE:=fun bT Ω=>iZ (T 0) (hTr 0) (by have:=eO 0;omega) bT Ω
 simp only[hT0] at hE
 refine lT [false] rfl (hE _ _) ?_
 first|refine W1 ?_|exact Z1
 refine aV (ι:=Nat) Tryz.checked.mixed rfl [1,2,4,5] (fun i=>[.c (.ptr (0,0) 0),.c (.ptr (0,1) 0),.c (.ptr (0,5) 0),.c (.d (.i .i64 i))])
  (fun i=>[.box [.d (.s t.fName),.d (.sl (t.bN.map encS)),.d (.b false),.d (.b true),.d (.sl (t.aD.map aR.enc))],.box [.d (.s []),.bD []],.tok 1 [[.s kX]],.box [.d (.s []),.bU (0,4) (T 0)],.tok 2 (T i),.box [.d (.s []),.bU (0,4) (T i)]]::S)
  (fun i=>i≤t.aD.length) (fun i=>t.aD.length-i) 0 rfl (by simp only[hT0]<;>(try rfl)) (Nat.zero_le _) ?_
 intro i hi
 have hl:=eO i
 first|refine W1 ?_|exact Z1
 with_reducible refine aS (fun hb=> ?_) (fun hb=> ?_)<;>have h:=hb<;>(try simp only[wf_preprocess] at h)<;>simp -implicitDefEqProofs (disch:=omega) only[go_sem,hb]<;>(repeat(with_reducible refine And.intro ?_ ?_;focus first|omega|rfl|assumption|exact⟨_,rfl,rfl⟩|(simp;omega)|(simp;done)))
 ·have hi':i<t.aD.length:=by omega
  have hm:=List.getElem_mem hi'
  have hcz:=uX hm
  have hce:=aR.sum t.aD[i]
  rw[dM] at hce
  obtain⟨q1,q2,q3⟩:=pX (hso _ hm)
  have hst:=hTs i hi'
  refine W3 ?_
  refine ah (bW _) ?_
  first|refine W1 ?_|exact Z1
  refine ah (yB t.aD[i].aY (by omega) (fun u hu=>by have:=uW hu;omega)) ?_
  first|refine W1 ?_|exact Z1
  refine ah (kC t.aD[i].bO (by omega)) ?_
  first|refine W1 ?_|exact Z1
  refine lT [false] rfl (iZ _ (by simp) (by simp) _ _) ?_
  first|refine W1 ?_|exact Z1
  first|refine S0 (fun hb h=>?_) (fun hb h=>?_)|refine S1 fun hb h=>?_|refine S2 fun hb h=>?_|exact S3
  ·rw[yI h] at hst
   simp only[List.map_cons,List.map_nil,eT,iK,ak.aC (dA t.aD[i].bO),ak.aC (fH t.aD[i].fBody)] at hst
   refine ah (dU t.aD[i].aF (by omega)) ?_
   first|refine W1 ?_|exact Z1
   refine ah (qC t.aD[i].fBody (q3 h) (by omega)) ?_
   first|refine W1 ?_|exact Z1
   (repeat(with_reducible refine And.intro ?_ ?_;focus first|omega|rfl|assumption|exact⟨_,rfl,rfl⟩|(simp;omega)|(simp;done)))
   rw[hst]
   exact dz 6 (by decide) (i+1) (by omega) rfl rfl rfl rfl (by omega)
  ·rw[yJ h] at hst
   simp only[List.map_cons,List.map_nil,eT,iK,ak.aC (dA t.aD[i].bO)] at hst
   refine W3 ?_
   rw[hst]
   exact dz 6 (by decide) (i+1) (by omega) rfl rfl rfl rfl (by omega)
 ·have hi':i=t.aD.length:=by omega
  subst hi'
  rw[hTe]
  refine ah (oF true (mZ t) (by omega)) ?_
  first|refine W1 ?_|exact Z1
  rfl
theorem Zd(t:bn)(hv:dV t=true)(hsz:t.sz≤1048576)(ha:t.ou=false)(hs:t.bY=false):aG Tryz.prog 56 [t.v] (rV (mZ t)).v:=fun S=>by
 have hdz:=bn.sum t
 rw[dM] at hdz
 obtain⟨hso,_⟩:=jv hv
 have hz:=Ew hv
 have hfl:oo t=[]:=by unfold oo;rw[ha,hs];rfl
 obtain⟨T,hT⟩:∃T:Nat→List (List D),T=fun i=>(iF t++(t.aD.map mQ).take i).map ak.enc:=⟨_,rfl⟩
 have hT0:T 0=[[.s xH,.sl []],[.s t.fName,.sl []],[.s [],.sl ((bf t.bN).map ak.enc)],[.s [],.sl ((bf []).map ak.enc)]]:=by
  rw[hT];simp only[List.take_zero,List.append_nil,iF,hfl,List.map_cons,List.map_nil,eT,iK]
 have eO:∀i,(T i).length≤i+4:=fun i=>by
  rw[hT];simp only[List.length_map,List.length_append]
  have:=List.length_take_le i (t.aD.map mQ)
  simp[iF];omega
 have hTs:∀i (hi:i<t.aD.length),T i++[[.s [],.sl ((mQ t.aD[i]).bF.map ak.enc)]]=T (i+1):=fun i hi=>by
  have:=iB (base:=iF t) (l:=t.aD.map mQ) (i:=i) (by rw[List.length_map];exact hi)
  rw[List.getElem_map,wJ] at this
  rw[hT];exact this
 have hTr:∀i,∀r∈T i,r.length=2:=fun i=>by rw[hT];exact jE
 have hTe:T t.aD.length=(mZ t).bF.map ak.enc:=by
  rw[hT];simp only
  rw[List.take_of_length_le (by simp)];rfl
 clear hT
 refine aA (rs:=[.cell 2 32]) Tryz.checked.mixed Tryz.func56 Tryz.ntmps56 rfl rfl rfl rfl rfl ?_
 first|refine W1 ?_|exact Z1
 refine ah (om t (by omega)) ?_
 simp -implicitDefEqProofs (disch:=omega) only[go_sem,hv,ha,hs]
 refine W3 ?_
 refine ah (bW _) ?_
 first|refine W1 ?_|exact Z1
 refine ah (bW _) ?_
 first|refine W1 ?_|exact Z1
 refine ah (dU t.bN (by omega)) ?_
 first|refine W1 ?_|exact Z1
 refine ah (dU [] (by simp)) ?_
 first|refine W1 ?_|exact Z1
 have hE:=fun bT Ω=>iZ (T 0) (hTr 0) (by have:=eO 0;omega) bT Ω
 simp only[hT0] at hE
 refine lT [false] rfl (hE _ _) ?_
 first|refine W1 ?_|exact Z1
 refine aV (ι:=Nat) Tryz.checked.mixed rfl [1,2,4,5] (fun i=>[.c (.ptr (0,0) 0),.c (.ptr (0,1) 0),.c (.ptr (0,4) 0),.c (.d (.i .i64 i))])
  (fun i=>[.box [.d (.s t.fName),.d (.sl (t.bN.map encS)),.d (.b false),.d (.b false),.d (.sl (t.aD.map aR.enc))],.box [.d (.s []),.bD []],.box [.d (.s []),.bU (0,3) (T 0)],.tok 2 (T i),.box [.d (.s []),.bU (0,3) (T i)]]::S)
  (fun i=>i≤t.aD.length) (fun i=>t.aD.length-i) 0 rfl (by simp only[hT0]<;>(try rfl)) (Nat.zero_le _) ?_
 intro i hi
 have hl:=eO i
 first|refine W1 ?_|exact Z1
 with_reducible refine aS (fun hb=> ?_) (fun hb=> ?_)<;>have h:=hb<;>(try simp only[wf_preprocess] at h)<;>simp -implicitDefEqProofs (disch:=omega) only[go_sem,hb]<;>(repeat(with_reducible refine And.intro ?_ ?_;focus first|omega|rfl|assumption|exact⟨_,rfl,rfl⟩|(simp;omega)|(simp;done)))
 ·have hi':i<t.aD.length:=by omega
  have hm:=List.getElem_mem hi'
  have hcz:=uX hm
  have hce:=aR.sum t.aD[i]
  rw[dM] at hce
  obtain⟨q1,q2,q3⟩:=pX (hso _ hm)
  have hst:=hTs i hi'
  refine W3 ?_
  refine ah (bW _) ?_
  first|refine W1 ?_|exact Z1
  refine ah (yB t.aD[i].aY (by omega) (fun u hu=>by have:=uW hu;omega)) ?_
  first|refine W1 ?_|exact Z1
  refine ah (kC t.aD[i].bO (by omega)) ?_
  first|refine W1 ?_|exact Z1
  refine lT [false] rfl (iZ _ (by simp) (by simp) _ _) ?_
  first|refine W1 ?_|exact Z1
  first|refine S0 (fun hb h=>?_) (fun hb h=>?_)|refine S1 fun hb h=>?_|refine S2 fun hb h=>?_|exact S3
  ·rw[yI h] at hst
   simp only[List.map_cons,List.map_nil,eT,iK,ak.aC (dA t.aD[i].bO),ak.aC (fH t.aD[i].fBody)] at hst
   refine ah (dU t.aD[i].aF (by omega)) ?_
   first|refine W1 ?_|exact Z1
   refine ah (qC t.aD[i].fBody (q3 h) (by omega)) ?_
   first|refine W1 ?_|exact Z1
   (repeat(with_reducible refine And.intro ?_ ?_;focus first|omega|rfl|assumption|exact⟨_,rfl,rfl⟩|(simp;omega)|(simp;done)))
   rw[hst]
   exact dz 5 (by decide) (i+1) (by omega) rfl rfl rfl rfl (by omega)
  ·rw[yJ h] at hst
   simp only[List.map_cons,List.map_nil,eT,iK,ak.aC (dA t.aD[i].bO)] at hst
   refine W3 ?_
   rw[hst]
   exact dz 5 (by decide) (i+1) (by omega) rfl rfl rfl rfl (by omega)
 ·have hi':i=t.aD.length:=by omega
  subst hi'
  rw[hTe]
  refine ah (oF true (mZ t) (by omega)) ?_
  first|refine W1 ?_|exact Z1
  rfl
theorem Lj(t:bn)(hsz:t.sz≤1048576):aG Tryz.prog 56 [t.v] (uq t).v:=by
 unfold uq
 cases hv:dV t with
 |false=>
  rw[sH]
  refine aG.less (fun S=> ?_) (wH [] [])
  refine aA (rs:=[.cell 2 32]) Tryz.checked.mixed Tryz.func56 Tryz.ntmps56 rfl rfl rfl rfl rfl ?_
  first|refine W1 ?_|exact Z1
  refine ah (om t (by omega)) ?_
  simp -implicitDefEqProofs (disch:=omega) only[go_sem,hv]
 |true=>
  rw[sH]
  have hb:=(jv hv).2
  cases ha:t.ou with
  |true=>
   cases hs:t.bY with
   |true=>exact absurd ⟨ha,hs⟩ hb
   |false=>exact Zb t hv hsz ha hs
  |false=>
   cases hs:t.bY with
   |true=>exact Zc t hv hsz ha hs
   |false=>exact Zd t hv hsz ha hs
end Go.Proofs.YtlmhknhlmicmeaaGreatDoor
namespace Go.Ab
noncomputable def lu(m:bB):Bool:=dec (1≤m.aF.length)&&(dec (m.aF.length≤5)&&oQ m.aF m.fBody)
noncomputable def kE(x:aN):List (List UInt8):=x.aT.map bB.fName
noncomputable def sW(x:aN):Bool:=validName x.bR&&(dec (x.aF.length≤3)&&(iA x.aF&&(gu x.aF x.bZ&&(!o7 x.bZ&&(dec (x.bZ.aX=2∨x.bZ.aX=1)&&(among x.aF (iL [] x.bZ)&&(nX x.aF x.bX&&((if x.fO=true then gu x.aF x.bY else dec (vI x.bY))&&dec (x.aT.length≤6)))))))))
noncomputable def fD(x:aN):Bool:=sW x&&(x.aT.all lu&&iA (kE x))
theorem aN.sum(x:aN):x.bR.length+(x.aF.length+aI (x.aF.map encS))+x.bZ.sz+(x.bX.length+aI (x.bX.map bq.enc))+x.bY.sz+(x.aT.length+aI (x.aT.map bB.enc))≤x.sz:=by
 simp only[aN.sz,aN.aC,bP,bA,D.sz,List.length_map,aj.dw]
 omega
theorem bB.sum(x:bB):x.fName.length+(x.aF.length+aI (x.aF.map encS))+x.fBody.sz≤x.sz:=by
 simp only[bB.sz,bB.aC,bP,bA,D.sz,List.length_map,au.dw]
 omega
theorem wK{xs:List bB}{t:bB}(h:t∈xs):t.sz≤aI (xs.map bB.enc):=bI (List.mem_map_of_mem h)
theorem Ll(v:List UInt8):∀(us:List aj) (out:List (List UInt8)),v∈us.foldl rQ out↔v∈out∨0<us.countP (H6 v)
 |[],out=>by simp
 |u::us,out=>by
  rw[List.foldl_cons,Ll v us,List.countP_cons]
  have h:v∈rQ out u↔v∈out∨H6 v u=true:=by
   unfold rQ H6
   split
   ·rename_i h
    simp only[List.mem_append,List.mem_singleton]
    constructor
    ·rintro(h1|h1)
     ·exact .inl h1
     ·right;simp[h1,h.1]
    ·rintro(h1|h1)
     ·exact .inl h1
     ·right;simp at h1;exact h1.2.symm
   ·rename_i h
    constructor
    ·exact .inl
    ·rintro(h1|h1)
     ·exact h1
     ·simp at h1
      by_cases e:u.fName∈out
      ·rw[←h1.2];exact e
      ·exact absurd ⟨h1.1,e⟩ h
  rw[h]
  cases H6 v u<;>simp
theorem Us(v:List UInt8)(t:aj):occurs v t=dec (v∈iL [] t):=by
 unfold occurs iL oN
 rw[ny]
 exact iJ (by rw[Ll];simp)
theorem Ut{t:aj}(h:mF t=true):t.aX=1∨t.aX=2∨t.aX=3∨t.aX=4:=by
 have h1:=(ji h).1
 rw[uN,Bool.and_eq_true] at h1
 have h2:=ji h1.1
 omega
theorem WR{t:aj}(h:o7 t=false):t.aX≠3:=by
 rw[BF] at h
 intro e
 simp[e] at h
end Go.Ab
namespace Go.Proofs.YtlmhknhlmicmeaaGreatDoor
open Go Go.Ab
set_option maxHeartbeats 2000000 in
theorem Gf(x:aN)(hsz:x.sz≤4194304):aG Tryz.prog 143 [x.v] (.c (.d (.b (fD x)))):=fun S=>by
 have hs:=aN.sum x
 have hV:∀s∈x.aF,s.length≤4194304:=fun s h=>by have:=pG h;omega
 have hW:∀b∈x.bX,b.sz≤4194304:=fun b h=>by have:=nT h;omega
 have hM:∀m∈x.aT,m.sz≤4194304:=fun m h=>by have:=wK h;omega
 have no:sW x=false→V.c (.d (.b false))=V.c (.d (.b (fD x))):=fun h=>aB (by unfold fD;rw[h];rfl)
 refine(show Hold (sW x=true→ ?T)→_ from fun tail=> ?main) ?tp
 case' main=>
  refine aA (rs:=[.tmp 2]) Tryz.checked.mixed Tryz.func143 Tryz.ntmps143 rfl rfl rfl rfl rfl ?_
  first|refine W1 ?_|exact Z1
  repeat' (first
   |with_reducible refine aS (fun hb=> ?_) (fun hb=> ?_)<;>have h:=hb<;>(try simp only[wf_preprocess] at h)<;>simp -implicitDefEqProofs (disch:=omega) only[go_sem,hb]<;>(repeat(with_reducible refine And.intro ?_ ?_;focus first|omega|rfl|assumption|exact⟨_,rfl,rfl⟩|(simp;omega)|(simp;done)))
   |((with_reducible show fq _ _ 168 _ _ _ _);refine ah (gJ x.bR (by omega)) ?_;simp -implicitDefEqProofs (disch:=omega) only[go_sem])
   |((with_reducible show fq _ _ 169 _ _ _ _);refine ah (nA x.aF (by omega) hV) ?_;simp -implicitDefEqProofs (disch:=omega) only[go_sem])
   |((with_reducible show fq _ _ 226 _ _ _ _);refine ah (qZ x.bZ x.aF (by omega) (by omega)) ?_;simp -implicitDefEqProofs (disch:=omega) only[go_sem])
   |((with_reducible show fq _ _ 226 _ _ _ _);refine ah (qZ x.bY x.aF (by omega) (by omega)) ?_;simp -implicitDefEqProofs (disch:=omega) only[go_sem])
   |((with_reducible show fq _ _ 235 _ _ _ _);refine ah (Az x.bZ (by omega)) ?_;simp -implicitDefEqProofs (disch:=omega) only[go_sem])
   |((with_reducible show fq _ _ 237 _ _ _ _);refine ah (vG x.bZ (by omega)) ?_;simp -implicitDefEqProofs (disch:=omega) only[go_sem])
   |((with_reducible show fq _ _ 236 _ _ _ _);refine ah (wV x.aF (iL [] x.bZ) (by omega) (I6 _ (by omega))) ?_;simp -implicitDefEqProofs (disch:=omega) only[go_sem])
   |((with_reducible show fq _ _ 223 _ _ _ _);refine ah (DT x.bX x.aF (by omega) hW (by omega)) ?_;simp -implicitDefEqProofs (disch:=omega) only[go_sem])
   |((with_reducible show fq _ _ 238 _ _ _ _);refine ah (Cn x.bY) ?_;simp -implicitDefEqProofs (disch:=omega) only[go_sem])
   |(refine no ?_;unfold sW;grind [ji,iW,bJ,aH]))
  all_goals
   have hh:sW x=true:=by unfold sW;grind [ji,iW,bJ,aH]
   refine W3 ?_
   refine oL 3 1 [] rfl (by simp) ?_
   refine pW (st':=[.box (x.enc.map .d),.tok 1 []]::S) [3,91,92,93] [.c (.bU (0,1) []),.c (.d (.sl (x.aT.map bB.enc))),.c (.d (.i .i64 x.aT.length)),.c (.d (.i .i64 0))] ?_ ?_ ?_
   ·rfl
   ·first|(simp -implicitDefEqProofs (disch:=omega) only[go_sem];done)|(simp -implicitDefEqProofs (disch:=omega) only[go_sem];simp[*])
   ·exact tail.out hh
 refine⟨fun hh=> ?_⟩
 have bad:∀i,∀hi:i<x.aT.length,lu x.aT[i]=false→V.c (.d (.b false))=V.c (.d (.b (fD x))):=fun i hi h=>by
  have:x.aT.all lu=false:=Bool.eq_false_iff.2 fun hx=>by
   rw[List.all_eq_true.1 hx _ (List.getElem_mem hi)] at h;cases h
  unfold fD
  rw[this];simp
 refine aV (ι:=Nat×List (List UInt8)) Tryz.checked.mixed rfl [3,91,92,93] (fun y=>[.c (.bU (0,1) (y.2.map encS)),.c (.d (.sl (x.aT.map bB.enc))),.c (.d (.i .i64 x.aT.length)),.c (.d (.i .i64 y.1))]) (fun y=>[.box (x.enc.map .d),.tok 1 (y.2.map encS)]::S)
  (fun y=>y.1≤x.aT.length∧y.2=(kE x).take y.1∧∀j,∀hj:j<x.aT.length,j<y.1→lu x.aT[j]=true) (fun y=>x.aT.length-y.1) (0,[]) rfl ?_ ⟨Nat.zero_le _,rfl,fun j _ h=>by simp only at h;omega⟩ ?_
 ·first|refine W1 ?_|exact Z1
 rintro⟨i,names⟩ ⟨p1,p2,p3⟩
 simp only at p1 p2 p3
 have pl:names.length≤x.aT.length:=by rw[p2];simp[kE];omega
 first|refine W1 ?_|exact Z1
 with_reducible refine aS (fun hb=> ?_) (fun hb=> ?_)<;>have h:=hb<;>(try simp only[wf_preprocess] at h)<;>simp -implicitDefEqProofs (disch:=omega) only[go_sem,hb]<;>(repeat(with_reducible refine And.intro ?_ ?_;focus first|omega|rfl|assumption|exact⟨_,rfl,rfl⟩|(simp;omega)|(simp;done)))
 ·have hi:i<x.aT.length:=by omega
  have hm:=hM _ (List.getElem_mem hi)
  have hms:=bB.sum x.aT[i]
  have hmv:∀s∈x.aT[i].aF,s.length≤4194304:=fun s h=>by have:=pG h;omega
  refine W3 ?_
  first|refine S0 (fun hb h=>?_) (fun hb h=>?_)|refine S1 fun hb h=>?_|refine S2 fun hb h=>?_|exact S3
  ·exact bad i hi (by unfold lu;rw[aH (by omega)];rfl)
  refine W3 ?_
  first|refine S0 (fun hb h=>?_) (fun hb h=>?_)|refine S1 fun hb h=>?_|refine S2 fun hb h=>?_|exact S3
  ·exact bad i hi (by unfold lu;rw[aH (show ¬x.aT[i].aF.length≤5 by omega)];simp)
  refine W3 ?_
  refine ah (DR x.aT[i].aF x.aT[i].fBody (by omega) hmv (by omega)) ?_
  first|refine W2 ?_|exact Z2
  first|refine S0 (fun hb h=>?_) (fun hb h=>?_)|refine S1 fun hb h=>?_|refine S2 fun hb h=>?_|exact S3
  ·exact bad i hi (by unfold lu;rw[h];simp)
  have k2:=h
  have k3:lu x.aT[i]=true:=by unfold lu;rw[k2,bJ (by omega),bJ (by omega)];rfl
  refine W3 ?_
  rw[show List.map encS names++[[D.s x.aT[i].fName]]=List.map encS (names++[x.aT[i].fName]) by simp[encS]]
  exact dz 2 (by decide) (i+1,names++[x.aT[i].fName]) (by simp only;omega) rfl rfl rfl rfl ⟨by simp only;omega,by simp only;rw[p2,gW (by simpa [kE] using hi)];simp[kE],fun j hj hji=>by
   simp only at hji
   by_cases e:j=i
   ·subst e;exact k3
   ·exact p3 j hj (by omega)⟩
 have hi:i=x.aT.length:=by omega
 have hn:names=kE x:=by rw[p2,List.take_of_length_le (by simp[kE];omega)]
 have hall:x.aT.all lu=true:=List.all_eq_true.2 fun c hc=>by
  obtain⟨j,hj,e⟩:=List.getElem_of_mem hc
  rw[←e];exact p3 j hj (by omega)
 have hnl:∀s∈names,s.length≤4194304:=fun s hm=>by
  rw[hn] at hm
  obtain⟨g,hg,e⟩:=List.mem_map.1 hm
  have:=hM g hg
  have:=bB.sum g
  rw[←e];omega
 refine ah (nA names (by omega) hnl) ?_
 first|refine W2 ?_|exact Z2
 exact aB (by unfold fD;rw[hh,hall,hn];rfl)
set_option maxHeartbeats 2000000 in
theorem ng(x:aN)(hsz:x.sz≤4194304):aG Tryz.prog 161 [x.v] (.c (.d (.b (fD x)))):=fun S=>by
 have hs:=aN.sum x
 have hV:∀s∈x.aF,s.length≤4194304:=fun s h=>by have:=pG h;omega
 have hW:∀b∈x.bX,b.sz≤4194304:=fun b h=>by have:=nT h;omega
 have hM:∀m∈x.aT,m.sz≤4194304:=fun m h=>by have:=wK h;omega
 have bad:x.aT.all lu=false→V.c (.d (.b false))=V.c (.d (.b (fD x))):=fun h=>aB (by unfold fD;rw[h];simp)
 have no:sW x=false→V.c (.d (.b false))=V.c (.d (.b (fD x))):=fun h=>aB (by unfold fD;rw[h];rfl)
 have hk:gu x.aF x.bZ=true→o7 x.bZ=false→(x.bZ.aX=1∨x.bZ.aX=2∨x.bZ.aX=4):=fun h1 h2=>by
  unfold gu at h1
  rw[Bool.and_eq_true] at h1
  have:=Ut h1.1
  have:=WR h2
  omega
 refine aA (rs:=[.tmp 2]) Tryz.checked.mixed Tryz.func161 Tryz.ntmps161 rfl rfl rfl rfl rfl ?_
 first|refine W1 ?_|exact Z1
 repeat' (first
  |with_reducible refine aS (fun hb=> ?_) (fun hb=> ?_)<;>have h:=hb<;>(try simp only[wf_preprocess] at h)<;>simp -implicitDefEqProofs (disch:=omega) only[go_sem,hb]<;>(repeat(with_reducible refine And.intro ?_ ?_;focus first|omega|rfl|assumption|exact⟨_,rfl,rfl⟩|(simp;omega)|(simp;done)))
  |((with_reducible show fq _ _ 152 _ _ _ _);refine ah (gK x.bR (by omega)) ?_;simp -implicitDefEqProofs (disch:=omega) only[go_sem])
  |((with_reducible show fq _ _ 153 _ _ _ _);refine ah (kK x.aF 3 (by omega) hV) ?_;simp -implicitDefEqProofs (disch:=omega) only[go_sem])
  |((with_reducible show fq _ _ 250 _ _ _ _);refine ah (qO x.bZ x.aF (by omega) (by omega)) ?_;simp -implicitDefEqProofs (disch:=omega) only[go_sem])
  |((with_reducible show fq _ _ 251 _ _ _ _);refine ah (Ay x.bZ (by omega)) ?_;simp -implicitDefEqProofs (disch:=omega) only[go_sem])
  |((with_reducible show fq _ _ 252 _ _ _ _);refine ah (Fp x.bX x.aF (by omega) hW (by omega)) ?_;simp -implicitDefEqProofs (disch:=omega) only[go_sem])
  |(refine no ?_;unfold sW;grind [ji,iW,bJ,aH]))
 all_goals
  have h1:validName x.bR=true:=by assumption
  have h2:(dec ((x.aF.length:Int)≤3)&&iA x.aF)=true:=by assumption
  have h3:gu x.aF x.bZ=true:=by assumption
  have h4:o7 x.bZ=false:=by assumption
  have h5:¬x.bZ.aX=4:=by assumption
  have h6:nX x.aF x.bX=true:=by assumption
 have h7:=hk h3 h4
 clear hk
 rw[Bool.and_eq_true] at h2
 have h8:=ji h2.1
 have pre:sW x=(among x.aF (iL [] x.bZ)&&((if x.fO=true then gu x.aF x.bY else dec (vI x.bY))&&dec (x.aT.length≤6))):=by
  unfold sW
  rw[h1,h2.2,h3,h4,h6,bJ (show x.aF.length≤3 by omega),bJ (show x.bZ.aX=2∨x.bZ.aX=1 by omega)]
  simp
 clear h1 h2 h3 h4 h5 h6 h7 h8
 refine aV (ι:=Nat) Tryz.checked.mixed rfl [1,3] (fun i=>[.c (.ptr (0,0) 0),.c (.d (.i .i64 i))]) (fun _=>[.box (x.enc.map .d)]::S)
  (fun i=>i≤x.aF.length∧among (x.aF.drop i) (iL [] x.bZ)=among x.aF (iL [] x.bZ)) (fun i=>x.aF.length-i) 0 rfl ?_ ⟨Nat.zero_le _,rfl⟩ ?_
 ·first|refine W1 ?_|exact Z1
 rintro i ⟨p1,p2⟩
 simp -implicitDefEqProofs (disch:=omega) only[go_sem,encS]
 with_reducible refine aS (fun hb=> ?_) (fun hb=> ?_)<;>have h:=hb<;>(try simp only[wf_preprocess] at h)<;>simp -implicitDefEqProofs (disch:=omega) only[go_sem,hb,encS]<;>(repeat(with_reducible refine And.intro ?_ ?_;focus first|omega|rfl|assumption|exact⟨_,rfl,rfl⟩|(simp;omega)|(simp;done)))
 ·have hi:i<x.aF.length:=by omega
  rw[List.drop_eq_getElem_cons hi] at p2
  have p3:among x.aF (iL [] x.bZ)=(dec (x.aF[i]∈iL [] x.bZ)&&among (x.aF.drop (i+1)) (iL [] x.bZ)):=p2.symm
  refine W3 ?_
  refine ah (Me x.aF[i] x.bZ (by omega)) ?_
  first|refine W2 ?_|exact Z2
  rw[Us]
  first|refine S0 (fun hb h=>?_) (fun hb h=>?_)|refine S1 fun hb h=>?_|refine S2 fun hb h=>?_|exact S3
  ·exact no (by rw[pre,p3,aH h];rfl)
  ·exact bL (i+1) (by omega) rfl rfl ⟨by omega,by rw[p3,bJ h];rfl⟩
 rw[List.drop_of_length_le (by omega)] at p2
 have p3:among x.aF (iL [] x.bZ)=true:=p2.symm
 rw[p3,Bool.true_and] at pre
 refine(show Hold ((if x.fO=true then gu x.aF x.bY else dec (vI x.bY))=true→ ?T)→_ from fun tail=> ?main) ?tp
 case' main=>
  repeat' (first
   |with_reducible refine aS (fun hb=> ?_) (fun hb=> ?_)<;>have h:=hb<;>(try simp only[wf_preprocess] at h)<;>simp -implicitDefEqProofs (disch:=omega) only[go_sem,hb]<;>(repeat(with_reducible refine And.intro ?_ ?_;focus first|omega|rfl|assumption|exact⟨_,rfl,rfl⟩|(simp;omega)|(simp;done)))
   |((with_reducible show fq _ _ 250 _ _ _ _);refine ah (qO x.bY x.aF (by omega) (by omega)) ?_;simp -implicitDefEqProofs (disch:=omega) only[go_sem])
   |((with_reducible show fq _ _ 254 _ _ _ _);refine ah (IW x.bY) ?_;simp -implicitDefEqProofs (disch:=omega) only[go_sem])
   |(refine no ?_;rw[pre];grind [ji,iW,bJ,aH]))
  all_goals
   have hh:(if x.fO=true then gu x.aF x.bY else dec (vI x.bY))=true:=by grind [ji,iW,bJ,aH]
   refine W3 ?_
   refine oL 4 1 [] rfl (by simp) ?_
   refine pW (st':=[.box (x.enc.map .d),.tok 1 []]::S) [1,4,5] [.c (.ptr (0,0) 0),.c (.bU (0,1) []),.c (.d (.i .i64 0))] ?_ ?_ ?_
   ·rfl
   ·first|(simp -implicitDefEqProofs (disch:=omega) only[go_sem];done)|(simp -implicitDefEqProofs (disch:=omega) only[go_sem];simp[*])
   ·exact tail.out hh
 refine⟨fun hh=> ?_⟩
 rw[hh,Bool.true_and] at pre
 clear p2 p3 p1 hh no
 have Ze:∀i,∀hi:i<x.aT.length,lu x.aT[i]=false→V.c (.d (.b false))=V.c (.d (.b (fD x))):=fun i hi h=>bad (Bool.eq_false_iff.2 fun hx=>by
  rw[List.all_eq_true.1 hx _ (List.getElem_mem hi)] at h;cases h)
 refine aV (ι:=Nat×List (List UInt8)) Tryz.checked.mixed rfl [1,4,5] (fun y=>[.c (.ptr (0,0) 0),.c (.bU (0,1) (y.2.map encS)),.c (.d (.i .i64 y.1))]) (fun y=>[.box (x.enc.map .d),.tok 1 (y.2.map encS)]::S)
  (fun y=>y.1≤x.aT.length∧y.2=(kE x).take y.1∧∀j,∀hj:j<x.aT.length,j<y.1→lu x.aT[j]=true) (fun y=>x.aT.length-y.1) (0,[]) rfl ?_ ⟨Nat.zero_le _,rfl,fun j _ h=>by simp only at h;omega⟩ ?_
 ·first|refine W1 ?_|exact Z1
 rintro⟨i,names⟩ ⟨p1,p2,p3⟩
 simp only at p1 p2 p3
 have pl:names.length≤x.aT.length:=by rw[p2];simp[kE];omega
 first|refine W1 ?_|exact Z1
 with_reducible refine aS (fun hb=> ?_) (fun hb=> ?_)<;>have h:=hb<;>(try simp only[wf_preprocess] at h)<;>simp -implicitDefEqProofs (disch:=omega) only[go_sem,hb]<;>(repeat(with_reducible refine And.intro ?_ ?_;focus first|omega|rfl|assumption|exact⟨_,rfl,rfl⟩|(simp;omega)|(simp;done)))
 ·have hi:i<x.aT.length:=by omega
  have hm:=hM _ (List.getElem_mem hi)
  have hms:=bB.sum x.aT[i]
  have hmv:∀s∈x.aT[i].aF,s.length≤4194304:=fun s h=>by have:=pG h;omega
  refine W3 ?_
  first|refine S0 (fun hb h=>?_) (fun hb h=>?_)|refine S1 fun hb h=>?_|refine S2 fun hb h=>?_|exact S3
  ·exact Ze i hi (by unfold lu;rw[aH (by omega)];rfl)
  refine W3 ?_
  refine ah (kK x.aT[i].aF 5 (by omega) hmv) ?_
  first|refine W2 ?_|exact Z2
  first|refine S0 (fun hb h=>?_) (fun hb h=>?_)|refine S1 fun hb h=>?_|refine S2 fun hb h=>?_|exact S3
  ·refine Ze i hi ?_
   unfold lu oQ
   have:(dec (x.aT[i].aF.length≤5)&&iA x.aT[i].aF)=false:=by
    rw[←h];congr 1;exact iJ ⟨fun h=>by omega,fun h=>by omega⟩
   rw[←Bool.and_assoc (dec (x.aT[i].aF.length≤5)),this];simp
  have k1:=h
  rw[Bool.and_eq_true] at k1
  have k4:=ji k1.1
  refine W3 ?_
  refine ah (BX x.aT[i].aF x.aT[i].fBody (by omega) (by omega)) ?_
  first|refine W2 ?_|exact Z2
  first|refine S0 (fun hb h=>?_) (fun hb h=>?_)|refine S1 fun hb h=>?_|refine S2 fun hb h=>?_|exact S3
  ·exact Ze i hi (by unfold lu oQ;rw[h];simp)
  have k2:=h
  have k3:lu x.aT[i]=true:=by unfold lu oQ;rw[k2,k1.2,bJ (by omega),bJ (by omega)];rfl
  refine W3 ?_
  rw[show List.map encS names++[[D.s x.aT[i].fName]]=List.map encS (names++[x.aT[i].fName]) by simp[encS]]
  exact dz 2 (by decide) (i+1,names++[x.aT[i].fName]) (by simp only;omega) rfl rfl rfl rfl ⟨by simp only;omega,by simp only;rw[p2,gW (by simpa [kE] using hi)];simp[kE],fun j hj hji=>by
   simp only at hji
   by_cases e:j=i
   ·subst e;exact k3
   ·exact p3 j hj (by omega)⟩
 have hi:i=x.aT.length:=by omega
 have hn:names=kE x:=by rw[p2,List.take_of_length_le (by simp[kE];omega)]
 have hall:x.aT.all lu=true:=List.all_eq_true.2 fun c hc=>by
  obtain⟨j,hj,e⟩:=List.getElem_of_mem hc
  rw[←e];exact p3 j hj (by omega)
 have hnl:∀s∈names,s.length≤4194304:=fun s hm=>by
  rw[hn] at hm
  obtain⟨g,hg,e⟩:=List.mem_map.1 hm
  have:=hM g hg
  have:=bB.sum g
  rw[←e];omega
 have hlen:names.length=x.aT.length:=by rw[hn];simp[kE]
 refine ah (kK names 6 (by omega) hnl) ?_
 first|refine W2 ?_|exact Z2
 refine aB ?_
 unfold fD
 rw[pre,hall,hn,Bool.true_and]
 congr 1
 rw[←hn,hlen]
 exact iJ ⟨fun h=>by omega,fun h=>by omega⟩
end Go.Proofs.YtlmhknhlmicmeaaGreatDoor
namespace Go.Ab
def vU(P:Program)(N:Nat)(g:St→St):Nat→Code→(Exit→St→Prop)→St→Prop
 |0,c,Q,s=>CW P N c Q (g s)
 |k+1,.seq x y,Q,s=>CW P N x (mO (vU P N g k y Q) Q) s
 |_,_,_,_=>False
theorem Pg{P:Program}{N:Nat}{g:St→St}{c:Code}{Q:Exit→St→Prop}{s:St}:vU P N g 0 c Q s=CW P N c Q (g s):=by rw[vU]
theorem wL{P:Program}{N k:Nat}{g:St→St}{x y:Code}{Q:Exit→St→Prop}{s:St}:vU P N g (k+1) (.seq x y) Q s=CW P N x (mO (vU P N g k y Q) Q) s:=by rw[vU]
theorem Zf{P:Program}{N:Nat}{g:St→St}{x y:Code}{Q:Exit→St→Prop}{s:St}:vU P N g 5 (.seq x y) Q s=CW P N x (mO (vU P N g 4 y Q) Q) s:=wL
theorem Zg{P:Program}{N:Nat}{g:St→St}{x y:Code}{Q:Exit→St→Prop}{s:St}:vU P N g 4 (.seq x y) Q s=CW P N x (mO (vU P N g 3 y Q) Q) s:=wL
theorem WS{P:Program}{N:Nat}{g:St→St}{x y:Code}{Q:Exit→St→Prop}{s:St}:vU P N g 3 (.seq x y) Q s=CW P N x (mO (vU P N g 2 y Q) Q) s:=wL
theorem aa3{P:Program}{N:Nat}{g:St→St}{x y:Code}{Q:Exit→St→Prop}{s:St}:vU P N g 2 (.seq x y) Q s=CW P N x (mO (vU P N g 1 y Q) Q) s:=wL
theorem aa4{P:Program}{N:Nat}{g:St→St}{x y:Code}{Q:Exit→St→Prop}{s:St}:vU P N g 1 (.seq x y) Q s=CW P N x (mO (vU P N g 0 y Q) Q) s:=wL
attribute [go_sem] Pg Zf Zg WS aa3 aa4
theorem Lm{P:Program}{N:Nat}{g:St→St}(hg:∀s,gY N s (g s))(jM:P.follows .mixedOrders=true):∀(k:Nat) (c:Code) (Q:Exit→St→Prop) (s:St),codeOk N c=true→vU P N g k c Q s→AW P N c Q s
 |0,c,Q,s,ok,h=>by
  rw[Pg] at h
  exact pR (mW jM c Q _ ok h) (hg s)
 |k+1,.seq x y,Q,s,ok,h=>by
  rw[wL] at h
  simp only[codeOk,Bool.and_eq_true] at ok
  refine UZ (AW.mono (mW jM x _ s ok.1 h) fun e s' h'=> ?_)
  cases e with
  |normal=>exact Lm hg jM k y Q s' ok.2 h'
  |_=>exact h'
 |k+1,.region ..,_,_,_,h=>h.elim
 |k+1,.cond ..,_,_,_,h=>h.elim
 |k+1,.block ..,_,_,_,h=>h.elim
 |k+1,.exit ..,_,_,_,h=>h.elim
 |k+1,.ret,_,_,_,h=>h.elim
 |k+1,.skip,_,_,_,h=>h.elim
 |k+1,.loop ..,_,_,_,h=>h.elim
theorem wX{P:Program}{S:Store}{N:Nat}(n k n' pos:Nat){f:FuncId}{fn:Func}{c:Code}{args:List V}{post:V→Store→Prop}{rs:List ResultVar}(jM:P.follows .mixedOrders=true)(hf:P.funcs[f]? =some fn)(hN:fn.ntmps=N)
 (hb:fn.body=some c) (hn:(fn.name== "runtime.NumGoroutine")=false) (hr:fn.results.toList=rs) (hl:Nat.ble args.length N=true) (hok:codeOk N c=true)
 (h:vU P N (zo n') pos c (OG P n rs post) ⟨o9 (args.map (V.up 1)) 0,[.seed n,.seed k]::S⟩):dh P f args S post:=by
 subst hN
 subst hr
 exact wO hf hb hn (Nat.le_of_ble_eq_true hl) (OH n k (yX (zi n) (Lm (AU n') jM pos c _ _ hok h)))
def Ca:List UInt8:=[105,110,115,116]
def l9:List UInt8:=[100,101,102,97,117,108,116]
def jX(x:aN):List (List UInt8):=if x.iX=true then [l9] else []
def kM(x:aN):List ak:=if x.fO=true then [dA x.bY] else []
def nY(m:bB):ak:=cO [cu m.fName,cO (bf m.aF),fH m.fBody]
def lF(x:aN):List ak:=[cu Ca,cu x.bR,cO (bf x.aF),dA x.bZ,cO (x.bX.map oV),cO (bf (jX x)),cO (kM x)]
def sZ(x:aN):ak:=cO (lF x++x.aT.map nY)
noncomputable def Ae(x:aN):ak:=sH (fD x) (sZ x)
theorem aa5(m:bB)(hok:iE m.fBody=true):(nY m).sz≤27+32*m.sz:=by
 have h1:=Dq m.fBody hok
 have h3:=bB.sum m
 rw[dM] at h3
 rw[nY,iY]
 simp[gq,jo,iY,iR,oD];omega
theorem Ph:∀l:List bB,(∀g∈l,iE g.fBody=true)→gq (l.map nY)≤27*l.length+32*aI (l.map bB.enc)
 |[],_=>by simp[gq]
 |c::l,h=>by
  have h1:=aa5 c (h c (List.mem_cons_self ..))
  have h2:=Ph l fun g hg=>h g (List.mem_cons_of_mem _ hg)
  rw[List.map_cons,gq,List.map_cons,aI,List.length_cons];simp only[bB.sz] at h1;omega
theorem nU{x:aN}(h:fD x=true):formed x.bZ=true∧(∀b∈x.bX,formed b.fType=true)∧(x.fO=true→formed x.bY=true)∧(∀m∈x.aT,iE m.fBody=true):=by
 unfold fD sW at h
 simp only[Bool.and_eq_true] at h
 obtain⟨⟨_,_,_,h1,_,_,_,h2,h3,_⟩,h4,_⟩:=h
 refine⟨rX h1,yc h2,fun ha=> ?_,fun m hm=> ?_⟩
 ·rw[if_pos ha] at h3;exact rX h3
 ·have h5:=List.all_eq_true.1 h4 m hm
  unfold lu at h5
  simp only[Bool.and_eq_true] at h5
  exact DU h5.2.2
theorem DV{x:aN}(hok:fD x=true):(sZ x).sz≤96+40*x.sz:=by
 obtain⟨_,_,_,hm⟩:=nU hok
 have h1:=Ph x.aT hm
 have h2:=Kh x.bX
 have h3:=aN.sum x
 have h4:=xC x.bZ
 have h5:=xC x.bY
 have h6:(jX x).length≤1∧((jX x).map List.length).sum≤7:=by unfold jX;split<;>simp[l9]
 have h7:(kM x).length≤1∧gq (kM x)≤(dA x.bY).sz:=by unfold kM;split<;>simp[gq]
 rw[dM] at h3
 rw[sZ,iY,gZ,List.length_append,List.length_map]
 simp[lF,gq,jo,iY,iR,oD,Ca];omega
theorem Uu(n:Nat)(a b:List UInt8)(w v:List (List UInt8))(h:ak)(bs zs:List ak):lx [cu a,cu b,cO (bf w),h,cO bs,cO (bf v),cO zs] (n+1)=[[.s a,.ol (n+1) []],[.s b,.ol (n+1+1) []],[.s [],.ol (n+1+1+1) (lx (bf w) (n+1+1+1+1))],[.s h.dI,.ol (n+1+1+1+dL (cO (bf w))) (lx h.bF (n+1+1+1+dL (cO (bf w))+1))],[.s [],.ol (n+1+1+1+dL (cO (bf w))+dL h) (lx bs (n+1+1+1+dL (cO (bf w))+dL h+1))],
 [.s [],.ol (n+1+1+1+dL (cO (bf w))+dL h+dL (cO bs)) (lx (bf v) (n+1+1+1+dL (cO (bf w))+dL h+dL (cO bs)+1))],[.s [],.ol (n+1+1+1+dL (cO (bf w))+dL h+dL (cO bs)+dL (cO (bf v))) (lx zs (n+1+1+1+dL (cO (bf w))+dL h+dL (cO bs)+dL (cO (bf v))+1))]]:=by
 simp only[iN,lq,iM,jG,jH,dX,dF,jl]
theorem Pj(n:Nat)(es:List (List D)):Less (.c (.d (.ol n es))) (.c (.d (.sl es))):=fun w σ S β v h=>⟨w9 h.1,h.2⟩
end Go.Ab
namespace Go.Proofs.YtlmhknhlmicmeaaGreatDoor
open Go Go.Ab
set_option maxHeartbeats 4000000 in
theorem DW(x:aN)(n:Nat)(hv:fD x=true)(hsz:x.sz≤1048576):aG Tryz.prog 71 [x.v] (.agg [.d (.s []),.d (.ol n (lx (sZ x).bF (n+1)))]):=fun S=>by
 have hdz:=aN.sum x
 rw[dM] at hdz
 obtain⟨hf1,hf2,hf3,zQ⟩:=nU hv
 obtain⟨p,hp⟩:∃p:Nat,p=n+1+1+1+dL (cO (bf x.aF))+dL (dA x.bZ)+dL (cO (x.bX.map oV))+dL (cO (bf (jX x))):=⟨_,rfl⟩
 obtain⟨L,hL⟩:∃L:Nat→Nat,L=fun i=>n+1+gT (lF x++(x.aT.map nY).take i):=⟨_,rfl⟩
 obtain⟨T,hT⟩:∃T:Nat→List (List D),T=fun i=>lx (lF x++(x.aT.map nY).take i) (n+1):=⟨_,rfl⟩
 have hT0:T 0=[[.s Ca,.ol (n+1) []],[.s x.bR,.ol (n+1+1) []],[.s [],.ol (n+1+1+1) (lx (bf x.aF) (n+1+1+1+1))],[.s (dA x.bZ).dI,.ol (n+1+1+1+dL (cO (bf x.aF))) (lx (dA x.bZ).bF (n+1+1+1+dL (cO (bf x.aF))+1))],[.s [],.ol (n+1+1+1+dL (cO (bf x.aF))+dL (dA x.bZ)) (lx (x.bX.map oV) (n+1+1+1+dL (cO (bf x.aF))+dL (dA x.bZ)+1))],[.s [],.ol (n+1+1+1+dL (cO (bf x.aF))+dL (dA x.bZ)+dL (cO (x.bX.map oV))) (lx (bf (jX x)) (n+1+1+1+dL (cO (bf x.aF))+dL (dA x.bZ)+dL (cO (x.bX.map oV))+1))],[.s [],.ol p (lx (kM x) (p+1))]]:=by
  rw[hT,hp];simp only[List.take_zero,List.append_nil,lF,Uu]
 have eO:∀i,(T i).length≤i+7:=fun i=>by
  rw[hT];simp only[fK,List.length_append]
  have:=List.length_take_le i (x.aT.map nY)
  simp[lF];omega
 have hTs:∀i (hi:i<x.aT.length),T i++[[.s [],.ol (L i) [[.s x.aT[i].fName,.ol (L i+1) []],[.s [],.ol (L i+1+1) (lx (bf x.aT[i].aF) (L i+1+1+1))],[.s (fH x.aT[i].fBody).dI,.ol (L i+1+1+dL (cO (bf x.aT[i].aF))) (lx (fH x.aT[i].fBody).bF (L i+1+1+dL (cO (bf x.aT[i].aF))+1))]]]]=T (i+1):=fun i hi=>by
  have:=wG (base:=lF x) (l:=x.aT.map nY) (i:=i) (by rw[List.length_map];exact hi) (n+1)
  rw[List.getElem_map,nY,dX,dF] at this
  simp only[iN,lq,iM,jG,jH,dX,dF,jl] at this
  rw[hT,hL];exact this
 have hTr:∀i,∀r∈T i,r.length=2:=fun i=>by rw[hT];exact jB
 have hTe:T x.aT.length=lx (sZ x).bF (n+1):=by
  rw[hT];simp only
  rw[List.take_of_length_le (by simp)];rfl
 clear hT hL
 refine(show Hold ?T→_ from fun tail=> ?main) ?tp
 case' main=>
  cases ha:x.iX<;>cases hs:x.fO
  ·have hfl:jX x=[]:=by unfold jX;rw[ha];rfl
   have has:kM x=[]:=by unfold kM;rw[hs];rfl
   refine wX (p) 1 (n) 5 (rs:=[.cell 2 32]) Tryz.checked.mixed Tryz.func71 Tryz.ntmps71 rfl rfl rfl rfl rfl ?_
   simp -implicitDefEqProofs (disch:=omega) only[go_sem,ha,hs]
   (repeat(with_reducible refine And.intro ?_ ?_;focus first|omega|rfl|assumption|exact⟨_,rfl,rfl⟩|(simp;omega)|(simp;done)))
   refine ah (dx _ (n+1)) ?_
   simp -implicitDefEqProofs (disch:=omega) only[go_sem]
   refine ah (dx _ (n+1+1)) ?_
   simp -implicitDefEqProofs (disch:=omega) only[go_sem]
   refine ah (dZ x.aF (by omega) (n+1+1+1)) ?_
   simp -implicitDefEqProofs (disch:=omega) only[go_sem]
   refine ah (jU x.bZ (n+1+1+1+dL (cO (bf x.aF))) hf1 (by omega)) ?_
   simp -implicitDefEqProofs (disch:=omega) only[go_sem]
   refine ah (ru x.bX (n+1+1+1+dL (cO (bf x.aF))+dL (dA x.bZ)) hf2 (by omega) (fun b hb=>by have:=nT hb;omega)) ?_
   simp -implicitDefEqProofs (disch:=omega) only[go_sem]
   refine q9 (dZ [] (by simp) (n+1+1+1+dL (cO (bf x.aF))+dL (dA x.bZ)+dL (cO (x.bX.map oV)))) (.cons (mG p _) .nil) ?_
   simp -implicitDefEqProofs (disch:=omega) only[go_sem]
   refine ah (l8 _ _) ?_
   simp -implicitDefEqProofs (disch:=omega) only[go_sem]
   (repeat(with_reducible refine And.intro ?_ ?_;focus first|omega|rfl|assumption|exact⟨_,rfl,rfl⟩|(simp;omega)|(simp;done)))
   refine mh n 5 2 (T 0) (.inl ?_) (hTr 0) ?_
   ·rw[hT0,hfl,has];rfl
   refine mE (L 0) ?_
   refine pW (st':=[.seed (L 0),.seed 1,.box [.d (.s x.bR),.d (.sl (x.aF.map encS)),.d (.i .i64 x.bZ.aX),.d (.s x.bZ.fName),.d (.sl (x.bZ.fArgs.map aj.enc)),.d (.sl (x.bX.map bq.enc)),.d (.b x.iX),.d (.b x.fO),.d (.i .i64 x.bY.aX),.d (.s x.bY.fName),.d (.sl (x.bY.fArgs.map aj.enc)),.d (.sl (x.aT.map bB.enc))],.box [.d (.s []),.bD []],.fB n 2 (T 0)]::S) [2,5,42,43,44] [.c (.ptr (0,3) 0),.c (.bU (0,4) (T 0)),.c (.d (.sl (x.aT.map bB.enc))),.c (.d (.i .i64 x.aT.length)),.c (.d (.i .i64 0))] ?_ ?_ ?_
   ·rfl
   ·rw[ha,hs];rfl
   ·exact tail.out
  ·have hfl:jX x=[]:=by unfold jX;rw[ha];rfl
   have has:kM x=[dA x.bY]:=by unfold kM;rw[hs];rfl
   refine wX (p) 1 (n) 5 (rs:=[.cell 2 32]) Tryz.checked.mixed Tryz.func71 Tryz.ntmps71 rfl rfl rfl rfl rfl ?_
   simp -implicitDefEqProofs (disch:=omega) only[go_sem,ha,hs]
   (repeat(with_reducible refine And.intro ?_ ?_;focus first|omega|rfl|assumption|exact⟨_,rfl,rfl⟩|(simp;omega)|(simp;done)))
   refine ah (jU x.bY (p+1) (hf3 hs) (by omega)) ?_
   simp -implicitDefEqProofs (disch:=omega) only[go_sem]
   (repeat(with_reducible refine And.intro ?_ ?_;focus first|omega|rfl|assumption|exact⟨_,rfl,rfl⟩|(simp;omega)|(simp;done)))
   refine ah (dx _ (n+1)) ?_
   simp -implicitDefEqProofs (disch:=omega) only[go_sem]
   refine ah (dx _ (n+1+1)) ?_
   simp -implicitDefEqProofs (disch:=omega) only[go_sem]
   refine ah (dZ x.aF (by omega) (n+1+1+1)) ?_
   simp -implicitDefEqProofs (disch:=omega) only[go_sem]
   refine ah (jU x.bZ (n+1+1+1+dL (cO (bf x.aF))) hf1 (by omega)) ?_
   simp -implicitDefEqProofs (disch:=omega) only[go_sem]
   refine ah (ru x.bX (n+1+1+1+dL (cO (bf x.aF))+dL (dA x.bZ)) hf2 (by omega) (fun b hb=>by have:=nT hb;omega)) ?_
   simp -implicitDefEqProofs (disch:=omega) only[go_sem]
   refine q9 (dZ [] (by simp) (n+1+1+1+dL (cO (bf x.aF))+dL (dA x.bZ)+dL (cO (x.bX.map oV)))) (.cons (mG p _) .nil) ?_
   simp -implicitDefEqProofs (disch:=omega) only[go_sem]
   refine ah (jK _) ?_
   simp -implicitDefEqProofs (disch:=omega) only[go_sem]
   (repeat(with_reducible refine And.intro ?_ ?_;focus first|omega|rfl|assumption|exact⟨_,rfl,rfl⟩|(simp;omega)|(simp;done)))
   refine mh n 5 2 (T 0) (.inl ?_) (hTr 0) ?_
   ·rw[hT0,hfl,has,iN,lq,iM];rfl
   refine mE (L 0) ?_
   refine pW (st':=[.seed (L 0),.seed 1,.box [.d (.s x.bR),.d (.sl (x.aF.map encS)),.d (.i .i64 x.bZ.aX),.d (.s x.bZ.fName),.d (.sl (x.bZ.fArgs.map aj.enc)),.d (.sl (x.bX.map bq.enc)),.d (.b x.iX),.d (.b x.fO),.d (.i .i64 x.bY.aX),.d (.s x.bY.fName),.d (.sl (x.bY.fArgs.map aj.enc)),.d (.sl (x.aT.map bB.enc))],.box [.d (.s []),.bD []],.fB n 2 (T 0)]::S) [2,5,42,43,44] [.c (.ptr (0,3) 0),.c (.bU (0,4) (T 0)),.c (.d (.sl (x.aT.map bB.enc))),.c (.d (.i .i64 x.aT.length)),.c (.d (.i .i64 0))] ?_ ?_ ?_
   ·rfl
   ·rw[ha,hs];rfl
   ·exact tail.out
  ·have hfl:jX x=[l9]:=by unfold jX;rw[ha];rfl
   have has:kM x=[]:=by unfold kM;rw[hs];rfl
   refine wX (p) 1 (n) 5 (rs:=[.cell 2 32]) Tryz.checked.mixed Tryz.func71 Tryz.ntmps71 rfl rfl rfl rfl rfl ?_
   simp -implicitDefEqProofs (disch:=omega) only[go_sem,ha,hs]
   (repeat(with_reducible refine And.intro ?_ ?_;focus first|omega|rfl|assumption|exact⟨_,rfl,rfl⟩|(simp;omega)|(simp;done)))
   refine ah (dx _ (n+1)) ?_
   simp -implicitDefEqProofs (disch:=omega) only[go_sem]
   refine ah (dx _ (n+1+1)) ?_
   simp -implicitDefEqProofs (disch:=omega) only[go_sem]
   refine ah (dZ x.aF (by omega) (n+1+1+1)) ?_
   simp -implicitDefEqProofs (disch:=omega) only[go_sem]
   refine ah (jU x.bZ (n+1+1+1+dL (cO (bf x.aF))) hf1 (by omega)) ?_
   simp -implicitDefEqProofs (disch:=omega) only[go_sem]
   refine ah (ru x.bX (n+1+1+1+dL (cO (bf x.aF))+dL (dA x.bZ)) hf2 (by omega) (fun b hb=>by have:=nT hb;omega)) ?_
   simp -implicitDefEqProofs (disch:=omega) only[go_sem]
   refine q9 (dZ [l9] (by simp) (n+1+1+1+dL (cO (bf x.aF))+dL (dA x.bZ)+dL (cO (x.bX.map oV)))) (.cons (Pj p _) .nil) ?_
   simp -implicitDefEqProofs (disch:=omega) only[go_sem]
   refine ah (l8 _ _) ?_
   simp -implicitDefEqProofs (disch:=omega) only[go_sem]
   (repeat(with_reducible refine And.intro ?_ ?_;focus first|omega|rfl|assumption|exact⟨_,rfl,rfl⟩|(simp;omega)|(simp;done)))
   refine mh n 5 2 (T 0) (.inl ?_) (hTr 0) ?_
   ·rw[hT0,hfl,has];rfl
   refine mE (L 0) ?_
   refine pW (st':=[.seed (L 0),.seed 1,.box [.d (.s x.bR),.d (.sl (x.aF.map encS)),.d (.i .i64 x.bZ.aX),.d (.s x.bZ.fName),.d (.sl (x.bZ.fArgs.map aj.enc)),.d (.sl (x.bX.map bq.enc)),.d (.b x.iX),.d (.b x.fO),.d (.i .i64 x.bY.aX),.d (.s x.bY.fName),.d (.sl (x.bY.fArgs.map aj.enc)),.d (.sl (x.aT.map bB.enc))],.box [.d (.s []),.bD []],.fB n 2 (T 0)]::S) [2,5,42,43,44] [.c (.ptr (0,3) 0),.c (.bU (0,4) (T 0)),.c (.d (.sl (x.aT.map bB.enc))),.c (.d (.i .i64 x.aT.length)),.c (.d (.i .i64 0))] ?_ ?_ ?_
   ·rfl
   ·rw[ha,hs];rfl
   ·exact tail.out
  ·have hfl:jX x=[l9]:=by unfold jX;rw[ha];rfl
   have has:kM x=[dA x.bY]:=by unfold kM;rw[hs];rfl
   refine wX (p) 1 (n) 5 (rs:=[.cell 2 32]) Tryz.checked.mixed Tryz.func71 Tryz.ntmps71 rfl rfl rfl rfl rfl ?_
   simp -implicitDefEqProofs (disch:=omega) only[go_sem,ha,hs]
   (repeat(with_reducible refine And.intro ?_ ?_;focus first|omega|rfl|assumption|exact⟨_,rfl,rfl⟩|(simp;omega)|(simp;done)))
   refine ah (jU x.bY (p+1) (hf3 hs) (by omega)) ?_
   simp -implicitDefEqProofs (disch:=omega) only[go_sem]
   (repeat(with_reducible refine And.intro ?_ ?_;focus first|omega|rfl|assumption|exact⟨_,rfl,rfl⟩|(simp;omega)|(simp;done)))
   refine ah (dx _ (n+1)) ?_
   simp -implicitDefEqProofs (disch:=omega) only[go_sem]
   refine ah (dx _ (n+1+1)) ?_
   simp -implicitDefEqProofs (disch:=omega) only[go_sem]
   refine ah (dZ x.aF (by omega) (n+1+1+1)) ?_
   simp -implicitDefEqProofs (disch:=omega) only[go_sem]
   refine ah (jU x.bZ (n+1+1+1+dL (cO (bf x.aF))) hf1 (by omega)) ?_
   simp -implicitDefEqProofs (disch:=omega) only[go_sem]
   refine ah (ru x.bX (n+1+1+1+dL (cO (bf x.aF))+dL (dA x.bZ)) hf2 (by omega) (fun b hb=>by have:=nT hb;omega)) ?_
   simp -implicitDefEqProofs (disch:=omega) only[go_sem]
   refine q9 (dZ [l9] (by simp) (n+1+1+1+dL (cO (bf x.aF))+dL (dA x.bZ)+dL (cO (x.bX.map oV)))) (.cons (Pj p _) .nil) ?_
   simp -implicitDefEqProofs (disch:=omega) only[go_sem]
   refine ah (jK _) ?_
   simp -implicitDefEqProofs (disch:=omega) only[go_sem]
   (repeat(with_reducible refine And.intro ?_ ?_;focus first|omega|rfl|assumption|exact⟨_,rfl,rfl⟩|(simp;omega)|(simp;done)))
   refine mh n 5 2 (T 0) (.inl ?_) (hTr 0) ?_
   ·rw[hT0,hfl,has,iN,lq,iM];rfl
   refine mE (L 0) ?_
   refine pW (st':=[.seed (L 0),.seed 1,.box [.d (.s x.bR),.d (.sl (x.aF.map encS)),.d (.i .i64 x.bZ.aX),.d (.s x.bZ.fName),.d (.sl (x.bZ.fArgs.map aj.enc)),.d (.sl (x.bX.map bq.enc)),.d (.b x.iX),.d (.b x.fO),.d (.i .i64 x.bY.aX),.d (.s x.bY.fName),.d (.sl (x.bY.fArgs.map aj.enc)),.d (.sl (x.aT.map bB.enc))],.box [.d (.s []),.bD []],.fB n 2 (T 0)]::S) [2,5,42,43,44] [.c (.ptr (0,3) 0),.c (.bU (0,4) (T 0)),.c (.d (.sl (x.aT.map bB.enc))),.c (.d (.i .i64 x.aT.length)),.c (.d (.i .i64 0))] ?_ ?_ ?_
   ·rfl
   ·rw[ha,hs];rfl
   ·exact tail.out
 refine⟨?_⟩
 refine aV (ι:=Nat) Tryz.checked.mixed rfl [2,5,42,43,44] (fun i=>[.c (.ptr (0,3) 0),.c (.bU (0,4) (T i)),.c (.d (.sl (x.aT.map bB.enc))),.c (.d (.i .i64 x.aT.length)),.c (.d (.i .i64 i))])
  (fun i=>[.seed (L i),.seed 1,.box [.d (.s x.bR),.d (.sl (x.aF.map encS)),.d (.i .i64 x.bZ.aX),.d (.s x.bZ.fName),.d (.sl (x.bZ.fArgs.map aj.enc)),.d (.sl (x.bX.map bq.enc)),.d (.b x.iX),.d (.b x.fO),.d (.i .i64 x.bY.aX),.d (.s x.bY.fName),.d (.sl (x.bY.fArgs.map aj.enc)),.d (.sl (x.aT.map bB.enc))],.box [.d (.s []),.bD []],.fB n 2 (T i)]::S)
  (fun i=>i≤x.aT.length) (fun i=>x.aT.length-i) 0 rfl rfl (Nat.zero_le _) ?_
 intro i hi
 have hl:=eO i
 simp -implicitDefEqProofs (disch:=omega) only[go_sem]
 with_reducible refine aS (fun hb=> ?_) (fun hb=> ?_)<;>have h:=hb<;>(try simp only[wf_preprocess] at h)<;>simp -implicitDefEqProofs (disch:=omega) only[go_sem,hb]<;>(repeat(with_reducible refine And.intro ?_ ?_;focus first|omega|rfl|assumption|exact⟨_,rfl,rfl⟩|(simp;omega)|(simp;done)))
 ·have hi':i<x.aT.length:=by omega
  have hm:=List.getElem_mem hi'
  have hcz:=wK hm
  have hce:=bB.sum x.aT[i]
  rw[dM] at hce
  have hst:=hTs i hi'
  (repeat(with_reducible refine And.intro ?_ ?_;focus first|omega|rfl|assumption|exact⟨_,rfl,rfl⟩|(simp;omega)|(simp;done)))
  refine ah (dx _ (L i+1)) ?_
  simp -implicitDefEqProofs (disch:=omega) only[go_sem]
  refine ah (dZ x.aT[i].aF (by omega) (L i+1+1)) ?_
  simp -implicitDefEqProofs (disch:=omega) only[go_sem]
  refine ah (vL x.aT[i].fBody (L i+1+1+dL (cO (bf x.aT[i].aF))) (zQ _ hm) (by omega)) ?_
  simp -implicitDefEqProofs (disch:=omega) only[go_sem]
  (repeat(with_reducible refine And.intro ?_ ?_;focus first|omega|rfl|assumption|exact⟨_,rfl,rfl⟩|(simp;omega)|(simp;done)))
  refine ah (l8 _ _) ?_
  simp -implicitDefEqProofs (disch:=omega) only[go_sem]
  (repeat(with_reducible refine And.intro ?_ ?_;focus first|omega|rfl|assumption|exact⟨_,rfl,rfl⟩|(simp;omega)|(simp;done)))
  rw[hst]
  refine jD (L (i+1)) 4 (by decide) (i+1) (by omega) rfl rfl ?_ rfl (by omega)
  simp[gV,gy,V.refs,C.refs,jw]
 ·have hi':i=x.aT.length:=by omega
  refine bV rfl (jr 0 4 _ _) ?_
  simp -implicitDefEqProofs (disch:=omega) only[go_sem]
  rw[hi',hTe]
set_option maxHeartbeats 4000000 in
theorem Zh(x:aN)(hv:fD x=true)(hsz:x.sz≤1048576)(ha:x.iX=true)(hs:x.fO=true):aG Tryz.prog 58 [x.v] (rV (sZ x)).v:=fun S=>by
 have hdz:=aN.sum x
 rw[dM] at hdz
 obtain⟨hf1,hf2,hf3,zQ⟩:=nU hv
 have hz:=DV hv
 have hfl:jX x=[l9]:=by unfold jX;rw[ha];rfl
 have has:kM x=[dA x.bY]:=by unfold kM;rw[hs];rfl
 obtain⟨T,hT⟩:∃T:Nat→List (List D),T=fun i=>(lF x++(x.aT.map nY).take i).map ak.enc:=⟨_,rfl⟩
 have hT0:T 0=[[.s Ca,.sl []],[.s x.bR,.sl []],[.s [],.sl ((bf x.aF).map ak.enc)],[.s (dA x.bZ).dI,.sl ((dA x.bZ).bF.map ak.enc)],[.s [],.sl ((x.bX.map oV).map ak.enc)],[.s [],.sl ((bf [l9]).map ak.enc)],[.s [],.sl [[.s (dA x.bY).dI,.sl ((dA x.bY).bF.map ak.enc)]]]]:=by
  rw[hT];simp only[List.take_zero,List.append_nil,lF,hfl,has,List.map_cons,List.map_nil,eT,iK,ak.aC (dA x.bZ),ak.aC (dA x.bY)]
 have eO:∀i,(T i).length≤i+7:=fun i=>by
  rw[hT];simp only[List.length_map,List.length_append]
  have:=List.length_take_le i (x.aT.map nY)
  simp[lF];omega
 have hTs:∀i (hi:i<x.aT.length),T i++[[.s [],.sl [[.s x.aT[i].fName,.sl []],[.s [],.sl ((bf x.aT[i].aF).map ak.enc)],[.s (fH x.aT[i].fBody).dI,.sl ((fH x.aT[i].fBody).bF.map ak.enc)]]]]=T (i+1):=fun i hi=>by
  have:=iB (base:=lF x) (l:=x.aT.map nY) (i:=i) (by rw[List.length_map];exact hi)
  rw[List.getElem_map,nY,dX,dF] at this
  simp only[List.map_cons,List.map_nil,eT,iK,ak.aC (fH x.aT[i].fBody)] at this
  rw[hT];exact this
 have hTr:∀i,∀r∈T i,r.length=2:=fun i=>by rw[hT];exact jE
 have hTe:T x.aT.length=(sZ x).bF.map ak.enc:=by
  rw[hT];simp only
  rw[List.take_of_length_le (by simp)];rfl
 clear hT
 refine aA (rs:=[.cell 2 32]) Tryz.checked.mixed Tryz.func58 Tryz.ntmps58 rfl rfl rfl rfl rfl ?_
 first|refine W1 ?_|exact Z1
 refine ah (ng x (by omega)) ?_
 simp -implicitDefEqProofs (disch:=omega) only[go_sem,hv,ha,hs]
 (repeat(with_reducible refine And.intro ?_ ?_;focus first|omega|rfl|assumption|exact⟨_,rfl,rfl⟩|(simp;omega)|(simp;done)))
 refine ah (kC x.bY (by omega)) ?_
 first|refine W1 ?_|exact Z1
 refine W3 ?_
 refine ah (lM _ (by simp) (by simp)) ?_
 first|refine W1 ?_|exact Z1
 refine W3 ?_
 refine ah (bW _) ?_
 first|refine W1 ?_|exact Z1
 refine ah (bW _) ?_
 first|refine W1 ?_|exact Z1
 refine ah (dU x.aF (by omega)) ?_
 first|refine W1 ?_|exact Z1
 refine ah (kC x.bZ (by omega)) ?_
 first|refine W1 ?_|exact Z1
 refine ah (sV x.bX (by omega) (fun b hb=>by have:=nT hb;omega)) ?_
 first|refine W1 ?_|exact Z1
 refine ah (dU [l9] (by simp)) ?_
 first|refine W1 ?_|exact Z1
 have hE:=fun bT Ω=>iZ (T 0) (hTr 0) (by have:=eO 0;omega) bT Ω
 simp only[hT0] at hE
 refine lT [false] rfl (hE _ _) ?_
 first|refine W1 ?_|exact Z1
 refine aV (ι:=Nat) Tryz.checked.mixed rfl [1,2,5,6] (fun i=>[.c (.ptr (0,0) 0),.c (.ptr (0,1) 0),.c (.ptr (0,6) 0),.c (.d (.i .i64 i))])
  (fun i=>[.box [.d (.s x.bR),.d (.sl (x.aF.map encS)),.d (.i .i64 x.bZ.aX),.d (.s x.bZ.fName),.d (.sl (x.bZ.fArgs.map aj.enc)),.d (.sl (x.bX.map bq.enc)),.d (.b true),.d (.b true),.d (.i .i64 x.bY.aX),.d (.s x.bY.fName),.d (.sl (x.bY.fArgs.map aj.enc)),.d (.sl (x.aT.map bB.enc))],.box [.d (.s []),.bD []],.tok 1 [[.s l9]],.box [.d (.s []),.d (.sl [[.s (dA x.bY).dI,.sl ((dA x.bY).bF.map ak.enc)]])],.box [.d (.s []),.bU (0,5) (T 0)],.tok 2 (T i),.box [.d (.s []),.bU (0,5) (T i)]]::S)
  (fun i=>i≤x.aT.length) (fun i=>x.aT.length-i) 0 rfl (by simp only[hT0]<;>(try rfl)) (Nat.zero_le _) ?_
 intro i hi
 have hl:=eO i
 first|refine W1 ?_|exact Z1
 with_reducible refine aS (fun hb=> ?_) (fun hb=> ?_)<;>have h:=hb<;>(try simp only[wf_preprocess] at h)<;>simp -implicitDefEqProofs (disch:=omega) only[go_sem,hb]<;>(repeat(with_reducible refine And.intro ?_ ?_;focus first|omega|rfl|assumption|exact⟨_,rfl,rfl⟩|(simp;omega)|(simp;done)))
 ·have hi':i<x.aT.length:=by omega
  have hm:=List.getElem_mem hi'
  have hcz:=wK hm
  have hce:=bB.sum x.aT[i]
  rw[dM] at hce
  have hst:=hTs i hi'
  refine W3 ?_
  refine ah (bW _) ?_
  first|refine W1 ?_|exact Z1
  refine ah (dU x.aT[i].aF (by omega)) ?_
  first|refine W1 ?_|exact Z1
  refine ah (qC x.aT[i].fBody (zQ _ hm) (by omega)) ?_
  first|refine W1 ?_|exact Z1
  refine ah (lM _ (by simp) (by simp)) ?_
  first|refine W1 ?_|exact Z1
  (repeat(with_reducible refine And.intro ?_ ?_;focus first|omega|rfl|assumption|exact⟨_,rfl,rfl⟩|(simp;omega)|(simp;done)))
  rw[hst]
  exact dz 7 (by decide) (i+1) (by omega) rfl rfl rfl rfl (by omega)
 ·have hi':i=x.aT.length:=by omega
  subst hi'
  rw[hTe]
  refine ah (oF true (sZ x) (by omega)) ?_
  first|refine W1 ?_|exact Z1
  rfl
set_option maxHeartbeats 4000000 in
theorem Zi(x:aN)(hv:fD x=true)(hsz:x.sz≤1048576)(ha:x.iX=true)(hs:x.fO=false):aG Tryz.prog 58 [x.v] (rV (sZ x)).v:=fun S=>by
 have hdz:=aN.sum x
 rw[dM] at hdz
 obtain⟨hf1,hf2,hf3,zQ⟩:=nU hv
 have hz:=DV hv
 have hfl:jX x=[l9]:=by unfold jX;rw[ha];rfl
 have has:kM x=[]:=by unfold kM;rw[hs];rfl
 obtain⟨T,hT⟩:∃T:Nat→List (List D),T=fun i=>(lF x++(x.aT.map nY).take i).map ak.enc:=⟨_,rfl⟩
 have hT0:T 0=[[.s Ca,.sl []],[.s x.bR,.sl []],[.s [],.sl ((bf x.aF).map ak.enc)],[.s (dA x.bZ).dI,.sl ((dA x.bZ).bF.map ak.enc)],[.s [],.sl ((x.bX.map oV).map ak.enc)],[.s [],.sl ((bf [l9]).map ak.enc)],[.s [],.sl []]]:=by
  rw[hT];simp only[List.take_zero,List.append_nil,lF,hfl,has,List.map_cons,List.map_nil,eT,iK,ak.aC (dA x.bZ),ak.aC (dA x.bY)]
 have eO:∀i,(T i).length≤i+7:=fun i=>by
  rw[hT];simp only[List.length_map,List.length_append]
  have:=List.length_take_le i (x.aT.map nY)
  simp[lF];omega
 have hTs:∀i (hi:i<x.aT.length),T i++[[.s [],.sl [[.s x.aT[i].fName,.sl []],[.s [],.sl ((bf x.aT[i].aF).map ak.enc)],[.s (fH x.aT[i].fBody).dI,.sl ((fH x.aT[i].fBody).bF.map ak.enc)]]]]=T (i+1):=fun i hi=>by
  have:=iB (base:=lF x) (l:=x.aT.map nY) (i:=i) (by rw[List.length_map];exact hi)
  rw[List.getElem_map,nY,dX,dF] at this
  simp only[List.map_cons,List.map_nil,eT,iK,ak.aC (fH x.aT[i].fBody)] at this
  rw[hT];exact this
 have hTr:∀i,∀r∈T i,r.length=2:=fun i=>by rw[hT];exact jE
 have hTe:T x.aT.length=(sZ x).bF.map ak.enc:=by
  rw[hT];simp only
  rw[List.take_of_length_le (by simp)];rfl
 clear hT
 refine aA (rs:=[.cell 2 32]) Tryz.checked.mixed Tryz.func58 Tryz.ntmps58 rfl rfl rfl rfl rfl ?_
 first|refine W1 ?_|exact Z1
 refine ah (ng x (by omega)) ?_
 simp -implicitDefEqProofs (disch:=omega) only[go_sem,hv,ha,hs]
 (repeat(with_reducible refine And.intro ?_ ?_;focus first|omega|rfl|assumption|exact⟨_,rfl,rfl⟩|(simp;omega)|(simp;done)))
 refine ah (bW _) ?_
 first|refine W1 ?_|exact Z1
 refine ah (bW _) ?_
 first|refine W1 ?_|exact Z1
 refine ah (dU x.aF (by omega)) ?_
 first|refine W1 ?_|exact Z1
 refine ah (kC x.bZ (by omega)) ?_
 first|refine W1 ?_|exact Z1
 refine ah (sV x.bX (by omega) (fun b hb=>by have:=nT hb;omega)) ?_
 first|refine W1 ?_|exact Z1
 refine ah (dU [l9] (by simp)) ?_
 first|refine W1 ?_|exact Z1
 have hE:=fun bT Ω=>iZ (T 0) (hTr 0) (by have:=eO 0;omega) bT Ω
 simp only[hT0] at hE
 refine lT [false] rfl (hE _ _) ?_
 first|refine W1 ?_|exact Z1
 refine aV (ι:=Nat) Tryz.checked.mixed rfl [1,2,5,6] (fun i=>[.c (.ptr (0,0) 0),.c (.ptr (0,1) 0),.c (.ptr (0,6) 0),.c (.d (.i .i64 i))])
  (fun i=>[.box [.d (.s x.bR),.d (.sl (x.aF.map encS)),.d (.i .i64 x.bZ.aX),.d (.s x.bZ.fName),.d (.sl (x.bZ.fArgs.map aj.enc)),.d (.sl (x.bX.map bq.enc)),.d (.b true),.d (.b false),.d (.i .i64 x.bY.aX),.d (.s x.bY.fName),.d (.sl (x.bY.fArgs.map aj.enc)),.d (.sl (x.aT.map bB.enc))],.box [.d (.s []),.bD []],.tok 1 [[.s l9]],.box [.d (.s []),.bD []],.box [.d (.s []),.bU (0,5) (T 0)],.tok 2 (T i),.box [.d (.s []),.bU (0,5) (T i)]]::S)
  (fun i=>i≤x.aT.length) (fun i=>x.aT.length-i) 0 rfl (by simp only[hT0]<;>(try rfl)) (Nat.zero_le _) ?_
 intro i hi
 have hl:=eO i
 first|refine W1 ?_|exact Z1
 with_reducible refine aS (fun hb=> ?_) (fun hb=> ?_)<;>have h:=hb<;>(try simp only[wf_preprocess] at h)<;>simp -implicitDefEqProofs (disch:=omega) only[go_sem,hb]<;>(repeat(with_reducible refine And.intro ?_ ?_;focus first|omega|rfl|assumption|exact⟨_,rfl,rfl⟩|(simp;omega)|(simp;done)))
 ·have hi':i<x.aT.length:=by omega
  have hm:=List.getElem_mem hi'
  have hcz:=wK hm
  have hce:=bB.sum x.aT[i]
  rw[dM] at hce
  have hst:=hTs i hi'
  refine W3 ?_
  refine ah (bW _) ?_
  first|refine W1 ?_|exact Z1
  refine ah (dU x.aT[i].aF (by omega)) ?_
  first|refine W1 ?_|exact Z1
  refine ah (qC x.aT[i].fBody (zQ _ hm) (by omega)) ?_
  first|refine W1 ?_|exact Z1
  refine ah (lM _ (by simp) (by simp)) ?_
  first|refine W1 ?_|exact Z1
  (repeat(with_reducible refine And.intro ?_ ?_;focus first|omega|rfl|assumption|exact⟨_,rfl,rfl⟩|(simp;omega)|(simp;done)))
  rw[hst]
  exact dz 7 (by decide) (i+1) (by omega) rfl rfl rfl rfl (by omega)
 ·have hi':i=x.aT.length:=by omega
  subst hi'
  rw[hTe]
  refine ah (oF true (sZ x) (by omega)) ?_
  first|refine W1 ?_|exact Z1
  rfl
set_option maxHeartbeats 4000000 in
theorem Zj(x:aN)(hv:fD x=true)(hsz:x.sz≤1048576)(ha:x.iX=false)(hs:x.fO=true):aG Tryz.prog 58 [x.v] (rV (sZ x)).v:=fun S=>by
 have hdz:=aN.sum x
 rw[dM] at hdz
 obtain⟨hf1,hf2,hf3,zQ⟩:=nU hv
 have hz:=DV hv
 have hfl:jX x=[]:=by unfold jX;rw[ha];rfl
 have has:kM x=[dA x.bY]:=by unfold kM;rw[hs];rfl
 obtain⟨T,hT⟩:∃T:Nat→List (List D),T=fun i=>(lF x++(x.aT.map nY).take i).map ak.enc:=⟨_,rfl⟩
 have hT0:T 0=[[.s Ca,.sl []],[.s x.bR,.sl []],[.s [],.sl ((bf x.aF).map ak.enc)],[.s (dA x.bZ).dI,.sl ((dA x.bZ).bF.map ak.enc)],[.s [],.sl ((x.bX.map oV).map ak.enc)],[.s [],.sl ((bf []).map ak.enc)],[.s [],.sl [[.s (dA x.bY).dI,.sl ((dA x.bY).bF.map ak.enc)]]]]:=by
  rw[hT];simp only[List.take_zero,List.append_nil,lF,hfl,has,List.map_cons,List.map_nil,eT,iK,ak.aC (dA x.bZ),ak.aC (dA x.bY)]
 have eO:∀i,(T i).length≤i+7:=fun i=>by
  rw[hT];simp only[List.length_map,List.length_append]
  have:=List.length_take_le i (x.aT.map nY)
  simp[lF];omega
 have hTs:∀i (hi:i<x.aT.length),T i++[[.s [],.sl [[.s x.aT[i].fName,.sl []],[.s [],.sl ((bf x.aT[i].aF).map ak.enc)],[.s (fH x.aT[i].fBody).dI,.sl ((fH x.aT[i].fBody).bF.map ak.enc)]]]]=T (i+1):=fun i hi=>by
  have:=iB (base:=lF x) (l:=x.aT.map nY) (i:=i) (by rw[List.length_map];exact hi)
  rw[List.getElem_map,nY,dX,dF] at this
  simp only[List.map_cons,List.map_nil,eT,iK,ak.aC (fH x.aT[i].fBody)] at this
  rw[hT];exact this
 have hTr:∀i,∀r∈T i,r.length=2:=fun i=>by rw[hT];exact jE
 have hTe:T x.aT.length=(sZ x).bF.map ak.enc:=by
  rw[hT];simp only
  rw[List.take_of_length_le (by simp)];rfl
 clear hT
 refine aA (rs:=[.cell 2 32]) Tryz.checked.mixed Tryz.func58 Tryz.ntmps58 rfl rfl rfl rfl rfl ?_
 first|refine W1 ?_|exact Z1
 refine ah (ng x (by omega)) ?_
 simp -implicitDefEqProofs (disch:=omega) only[go_sem,hv,ha,hs]
 refine W3 ?_
 refine ah (kC x.bY (by omega)) ?_
 first|refine W1 ?_|exact Z1
 refine W3 ?_
 refine ah (lM _ (by simp) (by simp)) ?_
 first|refine W1 ?_|exact Z1
 refine W3 ?_
 refine ah (bW _) ?_
 first|refine W1 ?_|exact Z1
 refine ah (bW _) ?_
 first|refine W1 ?_|exact Z1
 refine ah (dU x.aF (by omega)) ?_
 first|refine W1 ?_|exact Z1
 refine ah (kC x.bZ (by omega)) ?_
 first|refine W1 ?_|exact Z1
 refine ah (sV x.bX (by omega) (fun b hb=>by have:=nT hb;omega)) ?_
 first|refine W1 ?_|exact Z1
 refine ah (dU [] (by simp)) ?_
 first|refine W1 ?_|exact Z1
 have hE:=fun bT Ω=>iZ (T 0) (hTr 0) (by have:=eO 0;omega) bT Ω
 simp only[hT0] at hE
 refine lT [false] rfl (hE _ _) ?_
 first|refine W1 ?_|exact Z1
 refine aV (ι:=Nat) Tryz.checked.mixed rfl [1,2,5,6] (fun i=>[.c (.ptr (0,0) 0),.c (.ptr (0,1) 0),.c (.ptr (0,5) 0),.c (.d (.i .i64 i))])
  (fun i=>[.box [.d (.s x.bR),.d (.sl (x.aF.map encS)),.d (.i .i64 x.bZ.aX),.d (.s x.bZ.fName),.d (.sl (x.bZ.fArgs.map aj.enc)),.d (.sl (x.bX.map bq.enc)),.d (.b false),.d (.b true),.d (.i .i64 x.bY.aX),.d (.s x.bY.fName),.d (.sl (x.bY.fArgs.map aj.enc)),.d (.sl (x.aT.map bB.enc))],.box [.d (.s []),.bD []],.box [.d (.s []),.d (.sl [[.s (dA x.bY).dI,.sl ((dA x.bY).bF.map ak.enc)]])],.box [.d (.s []),.bU (0,4) (T 0)],.tok 2 (T i),.box [.d (.s []),.bU (0,4) (T i)]]::S)
  (fun i=>i≤x.aT.length) (fun i=>x.aT.length-i) 0 rfl (by simp only[hT0]<;>(try rfl)) (Nat.zero_le _) ?_
 intro i hi
 have hl:=eO i
 first|refine W1 ?_|exact Z1
 with_reducible refine aS (fun hb=> ?_) (fun hb=> ?_)<;>have h:=hb<;>(try simp only[wf_preprocess] at h)<;>simp -implicitDefEqProofs (disch:=omega) only[go_sem,hb]<;>(repeat(with_reducible refine And.intro ?_ ?_;focus first|omega|rfl|assumption|exact⟨_,rfl,rfl⟩|(simp;omega)|(simp;done)))
 ·have hi':i<x.aT.length:=by omega
  have hm:=List.getElem_mem hi'
  have hcz:=wK hm
  have hce:=bB.sum x.aT[i]
  rw[dM] at hce
  have hst:=hTs i hi'
  refine W3 ?_
  refine ah (bW _) ?_
  first|refine W1 ?_|exact Z1
  refine ah (dU x.aT[i].aF (by omega)) ?_
  first|refine W1 ?_|exact Z1
  refine ah (qC x.aT[i].fBody (zQ _ hm) (by omega)) ?_
  first|refine W1 ?_|exact Z1
  refine ah (lM _ (by simp) (by simp)) ?_
  first|refine W1 ?_|exact Z1
  (repeat(with_reducible refine And.intro ?_ ?_;focus first|omega|rfl|assumption|exact⟨_,rfl,rfl⟩|(simp;omega)|(simp;done)))
  rw[hst]
  exact dz 6 (by decide) (i+1) (by omega) rfl rfl rfl rfl (by omega)
 ·have hi':i=x.aT.length:=by omega
  subst hi'
  rw[hTe]
  refine ah (oF true (sZ x) (by omega)) ?_
  first|refine W1 ?_|exact Z1
  rfl
set_option maxHeartbeats 4000000 in
theorem Zk(x:aN)(hv:fD x=true)(hsz:x.sz≤1048576)(ha:x.iX=false)(hs:x.fO=false):aG Tryz.prog 58 [x.v] (rV (sZ x)).v:=fun S=>by
 have hdz:=aN.sum x
 rw[dM] at hdz
 obtain⟨hf1,hf2,hf3,zQ⟩:=nU hv
 have hz:=DV hv
 have hfl:jX x=[]:=by unfold jX;rw[ha];rfl
 have has:kM x=[]:=by unfold kM;rw[hs];rfl
 obtain⟨T,hT⟩:∃T:Nat→List (List D),T=fun i=>(lF x++(x.aT.map nY).take i).map ak.enc:=⟨_,rfl⟩
 have hT0:T 0=[[.s Ca,.sl []],[.s x.bR,.sl []],[.s [],.sl ((bf x.aF).map ak.enc)],[.s (dA x.bZ).dI,.sl ((dA x.bZ).bF.map ak.enc)],[.s [],.sl ((x.bX.map oV).map ak.enc)],[.s [],.sl ((bf []).map ak.enc)],[.s [],.sl []]]:=by
  rw[hT];simp only[List.take_zero,List.append_nil,lF,hfl,has,List.map_cons,List.map_nil,eT,iK,ak.aC (dA x.bZ),ak.aC (dA x.bY)]
 have eO:∀i,(T i).length≤i+7:=fun i=>by
  rw[hT];simp only[List.length_map,List.length_append]
  have:=List.length_take_le i (x.aT.map nY)
  simp[lF];omega
 have hTs:∀i (hi:i<x.aT.length),T i++[[.s [],.sl [[.s x.aT[i].fName,.sl []],[.s [],.sl ((bf x.aT[i].aF).map ak.enc)],[.s (fH x.aT[i].fBody).dI,.sl ((fH x.aT[i].fBody).bF.map ak.enc)]]]]=T (i+1):=fun i hi=>by
  have:=iB (base:=lF x) (l:=x.aT.map nY) (i:=i) (by rw[List.length_map];exact hi)
  rw[List.getElem_map,nY,dX,dF] at this
  simp only[List.map_cons,List.map_nil,eT,iK,ak.aC (fH x.aT[i].fBody)] at this
  rw[hT];exact this
 have hTr:∀i,∀r∈T i,r.length=2:=fun i=>by rw[hT];exact jE
 have hTe:T x.aT.length=(sZ x).bF.map ak.enc:=by
  rw[hT];simp only
  rw[List.take_of_length_le (by simp)];rfl
 clear hT
 refine aA (rs:=[.cell 2 32]) Tryz.checked.mixed Tryz.func58 Tryz.ntmps58 rfl rfl rfl rfl rfl ?_
 first|refine W1 ?_|exact Z1
 refine ah (ng x (by omega)) ?_
 simp -implicitDefEqProofs (disch:=omega) only[go_sem,hv,ha,hs]
 refine W3 ?_
 refine ah (bW _) ?_
 first|refine W1 ?_|exact Z1
 refine ah (bW _) ?_
 first|refine W1 ?_|exact Z1
 refine ah (dU x.aF (by omega)) ?_
 first|refine W1 ?_|exact Z1
 refine ah (kC x.bZ (by omega)) ?_
 first|refine W1 ?_|exact Z1
 refine ah (sV x.bX (by omega) (fun b hb=>by have:=nT hb;omega)) ?_
 first|refine W1 ?_|exact Z1
 refine ah (dU [] (by simp)) ?_
 first|refine W1 ?_|exact Z1
 have hE:=fun bT Ω=>iZ (T 0) (hTr 0) (by have:=eO 0;omega) bT Ω
 simp only[hT0] at hE
 refine lT [false] rfl (hE _ _) ?_
 first|refine W1 ?_|exact Z1
 refine aV (ι:=Nat) Tryz.checked.mixed rfl [1,2,5,6] (fun i=>[.c (.ptr (0,0) 0),.c (.ptr (0,1) 0),.c (.ptr (0,5) 0),.c (.d (.i .i64 i))])
  (fun i=>[.box [.d (.s x.bR),.d (.sl (x.aF.map encS)),.d (.i .i64 x.bZ.aX),.d (.s x.bZ.fName),.d (.sl (x.bZ.fArgs.map aj.enc)),.d (.sl (x.bX.map bq.enc)),.d (.b false),.d (.b false),.d (.i .i64 x.bY.aX),.d (.s x.bY.fName),.d (.sl (x.bY.fArgs.map aj.enc)),.d (.sl (x.aT.map bB.enc))],.box [.d (.s []),.bD []],.box [.d (.s []),.bD []],.box [.d (.s []),.bU (0,4) (T 0)],.tok 2 (T i),.box [.d (.s []),.bU (0,4) (T i)]]::S)
  (fun i=>i≤x.aT.length) (fun i=>x.aT.length-i) 0 rfl (by simp only[hT0]<;>(try rfl)) (Nat.zero_le _) ?_
 intro i hi
 have hl:=eO i
 first|refine W1 ?_|exact Z1
 with_reducible refine aS (fun hb=> ?_) (fun hb=> ?_)<;>have h:=hb<;>(try simp only[wf_preprocess] at h)<;>simp -implicitDefEqProofs (disch:=omega) only[go_sem,hb]<;>(repeat(with_reducible refine And.intro ?_ ?_;focus first|omega|rfl|assumption|exact⟨_,rfl,rfl⟩|(simp;omega)|(simp;done)))
 ·have hi':i<x.aT.length:=by omega
  have hm:=List.getElem_mem hi'
  have hcz:=wK hm
  have hce:=bB.sum x.aT[i]
  rw[dM] at hce
  have hst:=hTs i hi'
  refine W3 ?_
  refine ah (bW _) ?_
  first|refine W1 ?_|exact Z1
  refine ah (dU x.aT[i].aF (by omega)) ?_
  first|refine W1 ?_|exact Z1
  refine ah (qC x.aT[i].fBody (zQ _ hm) (by omega)) ?_
  first|refine W1 ?_|exact Z1
  refine ah (lM _ (by simp) (by simp)) ?_
  first|refine W1 ?_|exact Z1
  (repeat(with_reducible refine And.intro ?_ ?_;focus first|omega|rfl|assumption|exact⟨_,rfl,rfl⟩|(simp;omega)|(simp;done)))
  rw[hst]
  exact dz 6 (by decide) (i+1) (by omega) rfl rfl rfl rfl (by omega)
 ·have hi':i=x.aT.length:=by omega
  subst hi'
  rw[hTe]
  refine ah (oF true (sZ x) (by omega)) ?_
  first|refine W1 ?_|exact Z1
  rfl
theorem Pk(x:aN)(hsz:x.sz≤1048576):aG Tryz.prog 58 [x.v] (Ae x).v:=by
 unfold Ae
 cases hv:fD x with
 |false=>
  rw[sH]
  refine aG.less (fun S=> ?_) (wH [] [])
  refine aA (rs:=[.cell 2 32]) Tryz.checked.mixed Tryz.func58 Tryz.ntmps58 rfl rfl rfl rfl rfl ?_
  first|refine W1 ?_|exact Z1
  refine ah (ng x (by omega)) ?_
  simp -implicitDefEqProofs (disch:=omega) only[go_sem,hv]
 |true=>
  rw[sH]
  cases ha:x.iX with
  |true=>
   cases hs:x.fO with
   |true=>exact Zh x hv hsz ha hs
   |false=>exact Zi x hv hsz ha hs
  |false=>
   cases hs:x.fO with
   |true=>exact Zj x hv hsz ha hs
   |false=>exact Zk x hv hsz ha hs
end Go.Proofs.YtlmhknhlmicmeaaGreatDoor
namespace Go.Ab
def fP(p:bg):List (List UInt8):=p.aO.map bn.fName
def iC(p:bg):List (List UInt8):=p.ay.map aL.fName
def gG(ds:List aL):List (List UInt8):=ds.flatMap fun d=>d.aJ.map aK.fName
def fnNames(p:bg):List (List UInt8):=p.aU.map aQ.fName
def vM(ps:List bg):List (List UInt8):=ps.flatMap fP
def vN(ps:List bg):List (List UInt8):=ps.flatMap iC
def vO(ps:List bg):List (List UInt8):=ps.flatMap fun p=>gG p.ay
def vP(ps:List bg):List (List UInt8):=ps.flatMap fnNames
noncomputable def lN(ps:List bg):Bool:=dec (vM ps).Nodup&&(dec (vN ps).Nodup&&(dec (vO ps).Nodup&&dec (vP ps).Nodup))
theorem uY{α β:Type}(f:α→List β){xs:List α}{i:Nat}(hi:i<xs.length):(xs.take (i+1)).flatMap f=(xs.take i).flatMap f++f xs[i]:=by
 rw[List.take_succ_eq_append_getElem hi,List.flatMap_append]
 simp
theorem rH{α β:Type}(f:α→List β)(g:α→List D)(h:∀x,(f x).length≤bP (g x)):∀xs:List α,(xs.flatMap f).length≤aI (xs.map g)
 |[]=>by simp[aI]
 |x::xs=>by
  have h1:=h x
  have h2:=rH f g h xs
  rw[List.flatMap_cons,List.length_append,List.map_cons,aI]
  omega
theorem ZR(ds:List aL):(gG ds).length≤aI (ds.map aL.enc):=rH _ _ (fun d=>by
 rw[List.length_map]
 simp only[aL.aC,bP,bA,D.sz,List.length_map]
 omega) ds
theorem Pm(ps:List bg):(vM ps).length≤aI (ps.map bg.enc)∧(vN ps).length≤aI (ps.map bg.enc)∧(vO ps).length≤aI (ps.map bg.enc)∧(vP ps).length≤aI (ps.map bg.enc):=by
 refine⟨rH _ _ (fun p=> ?_) ps,rH _ _ (fun p=> ?_) ps,rH _ _ (fun p=> ?_) ps,rH _ _ (fun p=> ?_) ps⟩
 ·simp only[fP,bg.aC,bP,bA,D.sz,List.length_map];omega
 ·simp only[iC,bg.aC,bP,bA,D.sz,List.length_map];omega
 ·have:=ZR p.ay
  simp only[bg.aC,bP,bA,D.sz,List.length_map];omega
 ·simp only[fnNames,bg.aC,bP,bA,D.sz,List.length_map];omega
theorem bg.bounds{x:bg}(h:x.sz≤4194304):x.fName.length≤4194304∧x.dP.length≤4194304∧x.aO.length≤4194304∧x.ay.length≤4194304∧x.aM.length≤4194304∧x.aU.length≤4194304∧(gG x.ay).length≤4194304:=by
 have:=ZR x.ay
 simp only[bg.sz,bg.aC,bP,bA,D.sz,List.length_map] at h
 omega
end Go.Ab
namespace Go.Proofs.YtlmhknhlmicmeaaGreatDoor
open Go Go.Ab
theorem Pn(x:bg):∀left:Int,0≤left→left≤1048576→lU x.enc→aG Tryz.prog 10 [x.v,.c (.d (.i .i64 left))] (.c (.d (.i .i64 (dD left x.sz)))):=by
 intro left h0 h1 hf S
 simp only[bg.aC,List.cons_append,List.nil_append,jh,je,iV,and_true] at hf
 obtain⟨fName,dP,aO,ay,aM,aU⟩:=hf
 have hz:x.sz=x.fName.length+((x.dP.length+aI (x.dP.map encS))+((x.aO.length+aI (x.aO.map bn.enc))+((x.ay.length+aI (x.ay.map aL.enc))+((x.aM.length+aI (x.aM.map aN.enc))+((x.aU.length+aI (x.aU.map aQ.enc))))))):=by
  simp only[bg.sz,bg.aC,bP,bA,D.sz,List.length_map,Nat.add_zero,Nat.zero_add]<;>omega
 refine aA (rs:=[.tmp 4]) Tryz.checked.mixed Tryz.func10 Tryz.ntmps10 rfl rfl rfl rfl rfl ?_
 rw[hz]
 have yA:=qK fName
 first|refine W1 ?_|exact Z1
 first|refine S0 (fun hb h=>?_) (fun hb h=>?_)|refine S1 fun hb h=>?_|refine S2 fun hb h=>?_|exact S3
 ·exact int_eq (dn (by omega)).symm
 refine ah (nH x.dP _ (by omega) (by omega) dP) ?_
 first|refine W1 ?_|exact Z1
 first|refine S0 (fun hb h=>?_) (fun hb h=>?_)|refine S1 fun hb h=>?_|refine S2 fun hb h=>?_|exact S3
 ·have h':=dO h
  exact int_eq (dn (by omega)).symm
 have aeN:=eu h
 simp only[aeN.1]
 refine ah (Qw x.aO _ (by omega) (by omega) aO) ?_
 first|refine W1 ?_|exact Z1
 first|refine S0 (fun hb h=>?_) (fun hb h=>?_)|refine S1 fun hb h=>?_|refine S2 fun hb h=>?_|exact S3
 ·have h':=dO h
  exact int_eq (dn (by omega)).symm
 have aa6:=eu h
 simp only[aa6.1]
 refine ah (JZ x.ay _ (by omega) (by omega) ay) ?_
 first|refine W1 ?_|exact Z1
 first|refine S0 (fun hb h=>?_) (fun hb h=>?_)|refine S1 fun hb h=>?_|refine S2 fun hb h=>?_|exact S3
 ·have h':=dO h
  exact int_eq (dn (by omega)).symm
 have Uv:=eu h
 simp only[Uv.1]
 refine ah (J7 x.aM _ (by omega) (by omega) aM) ?_
 first|refine W1 ?_|exact Z1
 first|refine S0 (fun hb h=>?_) (fun hb h=>?_)|refine S1 fun hb h=>?_|refine S2 fun hb h=>?_|exact S3
 ·have h':=dO h
  exact int_eq (dn (by omega)).symm
 have Uw:=eu h
 simp only[Uw.1]
 refine ah (Ka x.aU _ (by omega) (by omega) aU) ?_
 first|refine W1 ?_|exact Z1
 first|refine S0 (fun hb h=>?_) (fun hb h=>?_)|refine S1 fun hb h=>?_|refine S2 fun hb h=>?_|exact S3
 ·have h':=dO h
  exact int_eq (dn (by omega)).symm
 have Ux:=eu h
 simp only[Ux.1]
 refine int_eq ?_
 rw[fU (by omega)]
 omega
theorem zq(x:bg):x.sz≤1048576→aG Tryz.prog 12 [x.v] x.v:=by
 intro hsz S
 simp only[bg.sz,bg.aC,bP,bA,D.sz,List.length_map] at hsz
 refine aA (rs:=[.cell 2 39]) Tryz.checked.mixed Tryz.func12 Tryz.ntmps12 rfl rfl rfl rfl rfl ?_
 first|refine W1 ?_|exact Z1
 refine ah (nI x.dP (by omega)) ?_
 first|refine W1 ?_|exact Z1
 refine ah (Qx x.aO (by omega)) ?_
 first|refine W1 ?_|exact Z1
 refine ah (J2 x.ay (by omega)) ?_
 first|refine W1 ?_|exact Z1
 refine ah (J8 x.aM (by omega)) ?_
 first|refine W1 ?_|exact Z1
 refine ah (Kc x.aU (by omega)) ?_
 first|refine W1 ?_|exact Z1
theorem Po(x:bg):∀y:bg,x.sz≤1048576→aG Tryz.prog 15 [x.v,y.v] (.c (.d (.b (dec (x=y))))):=by
 intro y hsz S
 simp only[bg.sz,bg.aC,bP,bA,D.sz,List.length_map] at hsz
 refine aA (rs:=[.tmp 4]) Tryz.checked.mixed Tryz.func15 Tryz.ntmps15 rfl rfl rfl rfl rfl ?_
 first|refine W1 ?_|exact Z1
 first|refine S0 (fun hb h=>?_) (fun hb h=>?_)|refine S1 fun hb h=>?_|refine S2 fun hb h=>?_|exact S3
 ·exact aB (aH (fun e=>h (by rw[e]))).symm
 have ow:=h
 clear h
 refine ah (nJ x.dP _ (by omega)) ?_
 first|refine W1 ?_|exact Z1
 first|refine S0 (fun hb h=>?_) (fun hb h=>?_)|refine S1 fun hb h=>?_|refine S2 fun hb h=>?_|exact S3
 ·exact aB (aH (fun e=>h (by rw[e]))).symm
 have aeO:=h
 clear h
 refine ah (Qz x.aO _ (by omega)) ?_
 first|refine W1 ?_|exact Z1
 first|refine S0 (fun hb h=>?_) (fun hb h=>?_)|refine S1 fun hb h=>?_|refine S2 fun hb h=>?_|exact S3
 ·exact aB (aH (fun e=>h (by rw[e]))).symm
 have aa7:=h
 clear h
 refine ah (J3 x.ay _ (by omega)) ?_
 first|refine W1 ?_|exact Z1
 first|refine S0 (fun hb h=>?_) (fun hb h=>?_)|refine S1 fun hb h=>?_|refine S2 fun hb h=>?_|exact S3
 ·exact aB (aH (fun e=>h (by rw[e]))).symm
 have Uy:=h
 clear h
 refine ah (J9 x.aM _ (by omega)) ?_
 first|refine W1 ?_|exact Z1
 first|refine S0 (fun hb h=>?_) (fun hb h=>?_)|refine S1 fun hb h=>?_|refine S2 fun hb h=>?_|exact S3
 ·exact aB (aH (fun e=>h (by rw[e]))).symm
 have Uz:=h
 clear h
 refine ah (Ke x.aU _ (by omega)) ?_
 first|refine W1 ?_|exact Z1
 first|refine S0 (fun hb h=>?_) (fun hb h=>?_)|refine S1 fun hb h=>?_|refine S2 fun hb h=>?_|exact S3
 ·exact aB (aH (fun e=>h (by rw[e]))).symm
 have UA:=h
 clear h
 exact aB (bJ (bg.ext' ow aeO aa7 Uy Uz UA)).symm
end Go.Proofs.YtlmhknhlmicmeaaGreatDoor
namespace Go.Proofs.YtlmhknhlmicmeaaGreatDoor
open Go Go.Ab
end Go.Proofs.YtlmhknhlmicmeaaGreatDoor
namespace Go.Ab
theorem fE.bounds{x:fE}(h:x.sz≤4194304):x.pE.length≤4194304:=by
 simp only[fE.sz,fE.aC,bP,bA,D.sz,List.length_map] at h
 omega
end Go.Ab
namespace Go.Proofs.YtlmhknhlmicmeaaGreatDoor
open Go Go.Ab
end Go.Proofs.YtlmhknhlmicmeaaGreatDoor
namespace Go.Proofs.YtlmhknhlmicmeaaGreatDoor
open Go Go.Ab
theorem zR(xs:List (List UInt8))(x:List UInt8):xs.map encS++[[D.s x]]=(xs++[x]).map encS:=by simp[encS]
theorem QV(p:bg)(hsz:p.sz≤4194304):aG Tryz.prog 151 [p.v] (.iO [(false,[.d (.sl ((fP p).map encS))]),(false,[.d (.sl ((iC p).map encS))]),(false,[.d (.sl ((gG p.ay).map encS))]),(false,[.d (.sl ((fnNames p).map encS))])]):=fun S=>by
 have hb0:=bg.bounds hsz
 refine aA (rs:=[.tmp 2,.tmp 3,.tmp 4,.tmp 5]) Tryz.checked.mixed Tryz.func151 Tryz.ntmps151 rfl rfl rfl rfl rfl ?_
 first|refine W1 ?_|exact Z1
 refine W3 ?_
 refine oL 6 1 [] rfl (by simp) ?_
 refine oL 7 1 [] rfl (by simp) ?_
 refine oL 8 1 [] rfl (by simp) ?_
 refine oL 9 1 [] rfl (by simp) ?_
 refine aV (ι:=Nat×List (List UInt8)) Tryz.checked.mixed rfl [1,6,7,8,9,10] (fun y=>[.c (.ptr (0,0) 0),.c (.bU (0,1) (y.2.map encS)),.c (.bU (0,2) []),.c (.bU (0,3) []),.c (.bU (0,4) []),.c (.d (.i .i64 y.1))]) (fun y=>[.box (p.enc.map .d),.tok 1 (y.2.map encS),.tok 1 [],.tok 1 [],.tok 1 []]::S)
  (fun y=>y.1≤p.aO.length∧y.2=(fP p).take y.1) (fun y=>p.aO.length-y.1) (0,[]) rfl ?_ ⟨Nat.zero_le _,rfl⟩ ?_
 ·first|refine W1 ?_|exact Z1
 rintro⟨i,a⟩ ⟨p1,p2⟩
 simp only at p1 p2
 have pl:a.length≤p.aO.length:=by rw[p2];simp[fP];omega
 first|refine W1 ?_|exact Z1
 with_reducible refine aS (fun hb=> ?_) (fun hb=> ?_)<;>have h:=hb<;>(try simp only[wf_preprocess] at h)<;>simp -implicitDefEqProofs (disch:=omega) only[go_sem,hb]<;>(repeat(with_reducible refine And.intro ?_ ?_;focus first|omega|rfl|assumption|exact⟨_,rfl,rfl⟩|(simp;omega)|(simp;done)))
 ·have hi:i<p.aO.length:=by omega
  refine W3 ?_
  rw[zR]
  exact bL (i+1,a++[p.aO[i].fName]) (by simp only;omega) rfl rfl ⟨by simp only;omega,by simp only;rw[p2,gW (by simpa [fP] using hi)];simp[fP]⟩
 have ha:a=fP p:=by rw[p2,List.take_of_length_le (by simp[fP];omega)]
 clear p1 p2 pl hb h
 subst ha
 refine aV (ι:=Nat×List (List UInt8)×List (List UInt8)) Tryz.checked.mixed rfl [1,6,7,8,9,11] (fun y=>[.c (.ptr (0,0) 0),.c (.bU (0,1) ((fP p).map encS)),.c (.bU (0,2) (y.2.1.map encS)),.c (.bU (0,3) (y.2.2.map encS)),.c (.bU (0,4) []),.c (.d (.i .i64 y.1))]) (fun y=>[.box (p.enc.map .d),.tok 1 ((fP p).map encS),.tok 1 (y.2.1.map encS),.tok 1 (y.2.2.map encS),.tok 1 []]::S)
  (fun y=>y.1≤p.ay.length∧y.2.1=(iC p).take y.1∧y.2.2=gG (p.ay.take y.1)) (fun y=>p.ay.length-y.1) (0,[],[]) rfl ?_ ⟨Nat.zero_le _,rfl,rfl⟩ ?_
 ·first|refine W1 ?_|exact Z1
 rintro⟨i,b,c⟩ ⟨p1,p2,p3⟩
 simp only at p1 p2 p3
 have pl:b.length≤p.ay.length:=by rw[p2];simp[iC];omega
 first|refine W1 ?_|exact Z1
 with_reducible refine aS (fun hb=> ?_) (fun hb=> ?_)<;>have h:=hb<;>(try simp only[wf_preprocess] at h)<;>simp -implicitDefEqProofs (disch:=omega) only[go_sem,hb]<;>(repeat(with_reducible refine And.intro ?_ ?_;focus first|omega|rfl|assumption|exact⟨_,rfl,rfl⟩|(simp;omega)|(simp;done)))
 ·have hi:i<p.ay.length:=by omega
  have e3:gG (p.ay.take (i+1))=c++p.ay[i].aJ.map aK.fName:=by rw[p3];exact uY _ hi
  have hcl:(gG (p.ay.take (i+1))).length≤4194304:=by
   have h1:(gG (p.ay.take (i+1))).length≤(gG p.ay).length:=by
    conv=>rhs;rw[←List.take_append_drop (i+1) p.ay]
    unfold gG
    rw[List.flatMap_append,List.length_append]
    omega
   omega
  rw[e3,List.length_append,List.length_map] at hcl
  refine W3 ?_
  rw[zR]
  refine aV (ι:=Nat×List (List UInt8)) Tryz.checked.mixed rfl [1,6,7,8,9,11,12] (fun y=>[.c (.ptr (0,0) 0),.c (.bU (0,1) ((fP p).map encS)),.c (.bU (0,2) ((b++[p.ay[i].fName]).map encS)),.c (.bU (0,3) (y.2.map encS)),.c (.bU (0,4) []),.c (.d (.i .i64 i)),.c (.d (.i .i64 y.1))]) (fun y=>[.box (p.enc.map .d),.tok 1 ((fP p).map encS),.tok 1 ((b++[p.ay[i].fName]).map encS),.tok 1 (y.2.map encS),.tok 1 []]::S)
   (fun y=>y.1≤p.ay[i].aJ.length∧y.2=c++(p.ay[i].aJ.map aK.fName).take y.1) (fun y=>p.ay[i].aJ.length-y.1) (0,c) rfl ?_ ⟨Nat.zero_le _,by simp⟩ ?_
  ·first|refine W1 ?_|exact Z1
  rintro⟨k,e⟩ ⟨q1,q2⟩
  simp only at q1 q2
  have pl2:e.length≤4194304:=by rw[q2];simp;omega
  first|refine W1 ?_|exact Z1
  (repeat(with_reducible refine And.intro ?_ ?_;focus first|omega|rfl|assumption|exact⟨_,rfl,rfl⟩|(simp;omega)|(simp;done)))
  with_reducible refine aS (fun hb=> ?_) (fun hb=> ?_)<;>have h:=hb<;>(try simp only[wf_preprocess] at h)<;>simp -implicitDefEqProofs (disch:=omega) only[go_sem,hb]<;>(repeat(with_reducible refine And.intro ?_ ?_;focus first|omega|rfl|assumption|exact⟨_,rfl,rfl⟩|(simp;omega)|(simp;done)))
  ·have hk:k<p.ay[i].aJ.length:=by omega
   refine W3 ?_
   rw[zR]
   exact bL (k+1,e++[p.ay[i].aJ[k].fName]) (by simp only;omega) rfl rfl ⟨by simp only;omega,by simp only;rw[q2,gW (by simpa using hk)];simp⟩
  ·have hk:k=p.ay[i].aJ.length:=by omega
   have he:e=c++p.ay[i].aJ.map aK.fName:=by rw[q2,List.take_of_length_le (by simp;omega)]
   exact bL (i+1,b++[p.ay[i].fName],e) (by simp only;omega) rfl rfl ⟨by simp only;omega,by simp only;rw[p2,gW (by simpa [iC] using hi)];simp[iC],by simp only;rw[e3,he]⟩
 have hb1:b=iC p:=by rw[p2,List.take_of_length_le (by simp[iC];omega)]
 have hc1:c=gG p.ay:=by rw[p3,List.take_of_length_le (by omega)]
 clear p1 p2 p3 pl hb h
 subst hb1
 subst hc1
 refine aV (ι:=Nat×List (List UInt8)) Tryz.checked.mixed rfl [1,6,7,8,9,13] (fun y=>[.c (.ptr (0,0) 0),.c (.bU (0,1) ((fP p).map encS)),.c (.bU (0,2) ((iC p).map encS)),.c (.bU (0,3) ((gG p.ay).map encS)),.c (.bU (0,4) (y.2.map encS)),.c (.d (.i .i64 y.1))]) (fun y=>[.box (p.enc.map .d),.tok 1 ((fP p).map encS),.tok 1 ((iC p).map encS),.tok 1 ((gG p.ay).map encS),.tok 1 (y.2.map encS)]::S)
  (fun y=>y.1≤p.aU.length∧y.2=(fnNames p).take y.1) (fun y=>p.aU.length-y.1) (0,[]) rfl ?_ ⟨Nat.zero_le _,rfl⟩ ?_
 ·first|refine W1 ?_|exact Z1
 rintro⟨i,a⟩ ⟨p1,p2⟩
 simp only at p1 p2
 have pl:a.length≤p.aU.length:=by rw[p2];simp[fnNames];omega
 first|refine W1 ?_|exact Z1
 with_reducible refine aS (fun hb=> ?_) (fun hb=> ?_)<;>have h:=hb<;>(try simp only[wf_preprocess] at h)<;>simp -implicitDefEqProofs (disch:=omega) only[go_sem,hb]<;>(repeat(with_reducible refine And.intro ?_ ?_;focus first|omega|rfl|assumption|exact⟨_,rfl,rfl⟩|(simp;omega)|(simp;done)))
 ·have hi:i<p.aU.length:=by omega
  refine W3 ?_
  rw[zR]
  exact bL (i+1,a++[p.aU[i].fName]) (by simp only;omega) rfl rfl ⟨by simp only;omega,by simp only;rw[p2,gW (by simpa [fnNames] using hi)];simp[fnNames]⟩
 ·have ha:a=fnNames p:=by rw[p2,List.take_of_length_le (by simp[fnNames];omega)]
  rw[ha]
end Go.Proofs.YtlmhknhlmicmeaaGreatDoor
namespace Go.Proofs.YtlmhknhlmicmeaaGreatDoor
open Go Go.Ab
def xR(a b c d:List (List UInt8))(rest:List Ab.Obj)(S:Store):Store:=
 (.box [.bD [],.bD [],.bD [],.bD []]:: .box [.bU (0,2) (a.map encS),.bU (0,3) (b.map encS),.bU (0,4) (c.map encS),.bU (0,5) (d.map encS)]:: .tok 1 (a.map encS):: .tok 1 (b.map encS):: .tok 1 (c.map encS):: .tok 1 (d.map encS)::rest)::S
theorem QW(ps:List bg)(hl:ps.length≤4194304)(hz:aI (ps.map bg.enc)≤4194304):aG Tryz.prog 267 [.c (.d (.sl (ps.map bg.enc)))] (.agg [.d (.sl ((vM ps).map encS)),.d (.sl ((vN ps).map encS)),.d (.sl ((vO ps).map encS)),.d (.sl ((vP ps).map encS))]):=fun S=>by
 have hn:=Pm ps
 refine aA (rs:=[.cell 2 280]) Tryz.checked.mixed Tryz.func267 Tryz.ntmps267 rfl rfl rfl rfl rfl ?_
 simp -implicitDefEqProofs (disch:=omega) only[go_sem]
 (repeat(with_reducible refine And.intro ?_ ?_;focus first|omega|rfl|assumption|exact⟨_,rfl,rfl⟩|(simp;omega)|(simp;done)))
 refine pz 1 0 1 [] [.bD [],.bD [],.bD [],.bD []] rfl rfl (by simp) ?_
 refine pz 1 1 1 [] [.bU (0,2) [],.bD [],.bD [],.bD []] rfl rfl (by simp) ?_
 refine pz 1 2 1 [] [.bU (0,2) [],.bU (0,3) [],.bD [],.bD []] rfl rfl (by simp) ?_
 refine pz 1 3 1 [] [.bU (0,2) [],.bU (0,3) [],.bU (0,4) [],.bD []] rfl rfl (by simp) ?_
 refine aV (ι:=Nat×List (List UInt8)×List (List UInt8)×List (List UInt8)×List (List UInt8)) Tryz.checked.mixed rfl [2,3,15,16,17] (fun y=>[.c (.ptr (0,0) 0),.c (.ptr (0,1) 0),.c (.d (.sl (ps.map bg.enc))),.c (.d (.i .i64 ps.length)),.c (.d (.i .i64 y.1))])
  (fun y=>[.box [.bD [],.bD [],.bD [],.bD []],.box [.bU (0,2) (y.2.1.map encS),.bU (0,3) (y.2.2.1.map encS),.bU (0,4) (y.2.2.2.1.map encS),.bU (0,5) (y.2.2.2.2.map encS)],.tok 1 (y.2.1.map encS),.tok 1 (y.2.2.1.map encS),.tok 1 (y.2.2.2.1.map encS),.tok 1 (y.2.2.2.2.map encS)]::S)
  (fun y=>y.1≤ps.length∧y.2.1=vM (ps.take y.1)∧y.2.2.1=vN (ps.take y.1)∧y.2.2.2.1=vO (ps.take y.1)∧y.2.2.2.2=vP (ps.take y.1)) (fun y=>ps.length-y.1) (0,[],[],[],[]) rfl rfl ⟨Nat.zero_le _,rfl,rfl,rfl,rfl⟩ ?_
 rintro⟨i,a,b,c,d⟩ ⟨p1,p2,p3,p4,p5⟩
 simp only at p1 p2 p3 p4 p5
 simp -implicitDefEqProofs (disch:=omega) only[go_sem]
 with_reducible refine aS (fun hb=> ?_) (fun hb=> ?_)<;>have h:=hb<;>(try simp only[wf_preprocess] at h)<;>simp -implicitDefEqProofs (disch:=omega) only[go_sem,hb]<;>(repeat(with_reducible refine And.intro ?_ ?_;focus first|omega|rfl|assumption|exact⟨_,rfl,rfl⟩|(simp;omega)|(simp;done)))
 ·have hi:i<ps.length:=by omega
  have hp:ps[i].sz≤4194304:=by
   have hx:ps[i].sz≤aI (ps.map bg.enc):=bI (List.mem_map_of_mem (List.getElem_mem hi))
   omega
  (repeat(with_reducible refine And.intro ?_ ?_;focus first|omega|rfl|assumption|exact⟨_,rfl,rfl⟩|(simp;omega)|(simp;done)))
  have sub:∀(f:bg→List (List UInt8)),((ps.take (i+1)).flatMap f).length≤(ps.flatMap f).length:=fun f=>by
   conv=>rhs;rw[←List.take_append_drop (i+1) ps]
   rw[List.flatMap_append,List.length_append]
   omega
  have e2:vM (ps.take (i+1))=a++fP ps[i]:=by rw[p2];exact uY _ hi
  have e3:vN (ps.take (i+1))=b++iC ps[i]:=by rw[p3];exact uY _ hi
  have e4:vO (ps.take (i+1))=c++gG ps[i].ay:=by rw[p4];exact uY _ hi
  have e5:vP (ps.take (i+1))=d++fnNames ps[i]:=by rw[p5];exact uY _ hi
  have l2:(a++fP ps[i]).length≤4194304:=by rw[←e2];have:=sub fP;unfold vM at *;omega
  have l3:(b++iC ps[i]).length≤4194304:=by rw[←e3];have:=sub iC;unfold vN at *;omega
  have l4:(c++gG ps[i].ay).length≤4194304:=by rw[←e4];have:=sub (fun p=>gG p.ay);unfold vO at *;omega
  have l5:(d++fnNames ps[i]).length≤4194304:=by rw[←e5];have:=sub fnNames;unfold vP at *;omega
  have hbp:=bg.bounds hp
  rw[List.length_append] at l2 l3 l4 l5
  refine aV (ι:=Nat×List (List UInt8)) Tryz.checked.mixed rfl [2,3,5,15,16,17,22,23,24] (fun y=>[.c (.ptr (0,0) 0),.c (.ptr (0,1) 0),.c (.ptr (0,6) 0),.c (.d (.sl (ps.map bg.enc))),.c (.d (.i .i64 ps.length)),.c (.d (.i .i64 i)),.c (.d (.sl (ps[i].aO.map bn.enc))),.c (.d (.i .i64 ps[i].aO.length)),.c (.d (.i .i64 y.1))]) (fun y=>xR y.2 b c d [.box (ps[i].enc.map .d)] S)
   (fun y=>y.1≤ps[i].aO.length∧y.2=a++(fP ps[i]).take y.1) (fun y=>ps[i].aO.length-y.1) (0,a) rfl ?_ ⟨Nat.zero_le _,by simp⟩ ?_
  ·unfold xR
   simp -implicitDefEqProofs (disch:=omega) only[go_sem]
  rintro⟨k,a'⟩ ⟨q1,q2⟩
  simp only at q1 q2
  have ql:a'.length≤4194304:=by rw[q2];simp[fP] at *;omega
  unfold xR
  simp -implicitDefEqProofs (disch:=omega) only[go_sem]
  with_reducible refine aS (fun hb=> ?_) (fun hb=> ?_)<;>have h:=hb<;>(try simp only[wf_preprocess] at h)<;>simp -implicitDefEqProofs (disch:=omega) only[go_sem,hb]<;>(repeat(with_reducible refine And.intro ?_ ?_;focus first|omega|rfl|assumption|exact⟨_,rfl,rfl⟩|(simp;omega)|(simp;done)))
  ·have hk:k<ps[i].aO.length:=by omega
   have ql':a'.length+1≤4194304:=by rw[q2];simp[fP] at *;omega
   (repeat(with_reducible refine And.intro ?_ ?_;focus first|omega|rfl|assumption|exact⟨_,rfl,rfl⟩|(simp;omega)|(simp;done)))
   rw[zR]
   exact dz 7 (by decide) (k+1,a'++[ps[i].aO[k].fName]) (by simp only;omega) rfl rfl rfl rfl ⟨by simp only;omega,by simp only;rw[q2,gW (by simpa [fP] using hk)];simp[fP]⟩
  have ha:a'=a++fP ps[i]:=by rw[q2,List.take_of_length_le (by simp[fP];omega)]
  clear q1 q2 ql hb h
  subst ha
  refine aV (ι:=Nat×List (List UInt8)×List (List UInt8)) Tryz.checked.mixed rfl [2,3,5,15,16,17,37,38,39] (fun y=>[.c (.ptr (0,0) 0),.c (.ptr (0,1) 0),.c (.ptr (0,6) 0),.c (.d (.sl (ps.map bg.enc))),.c (.d (.i .i64 ps.length)),.c (.d (.i .i64 i)),.c (.d (.sl (ps[i].ay.map aL.enc))),.c (.d (.i .i64 ps[i].ay.length)),.c (.d (.i .i64 y.1))]) (fun y=>xR (a++fP ps[i]) y.2.1 y.2.2 d [.box (ps[i].enc.map .d)] S)
   (fun y=>y.1≤ps[i].ay.length∧y.2.1=b++(iC ps[i]).take y.1∧y.2.2=c++gG (ps[i].ay.take y.1)) (fun y=>ps[i].ay.length-y.1) (0,b,c) rfl ?_ ⟨Nat.zero_le _,by simp,by simp[gG]⟩ ?_
  ·unfold xR
   simp -implicitDefEqProofs (disch:=omega) only[go_sem]
  rintro⟨k',b',c'⟩ ⟨q1,q2,q3⟩
  simp only at q1 q2 q3
  unfold xR
  simp -implicitDefEqProofs (disch:=omega) only[go_sem]
  with_reducible refine aS (fun hb=> ?_) (fun hb=> ?_)<;>have h:=hb<;>(try simp only[wf_preprocess] at h)<;>simp -implicitDefEqProofs (disch:=omega) only[go_sem,hb]<;>(repeat(with_reducible refine And.intro ?_ ?_;focus first|omega|rfl|assumption|exact⟨_,rfl,rfl⟩|(simp;omega)|(simp;done)))
  ·have hk:k'<ps[i].ay.length:=by omega
   have e6:gG (ps[i].ay.take (k'+1))=gG (ps[i].ay.take k')++ps[i].ay[k'].aJ.map aK.fName:=uY _ hk
   have hcl:(gG (ps[i].ay.take (k'+1))).length≤(gG ps[i].ay).length:=by
    conv=>rhs;rw[←List.take_append_drop (k'+1) ps[i].ay]
    unfold gG
    rw[List.flatMap_append,List.length_append]
    omega
   have ql':b'.length+1≤4194304:=by rw[q2];simp[iC] at *;omega
   have qc:c'.length+ps[i].ay[k'].aJ.length≤4194304:=by
    rw[e6,List.length_append,List.length_map] at hcl
    rw[q3,List.length_append]
    omega
   (repeat(with_reducible refine And.intro ?_ ?_;focus first|omega|rfl|assumption|exact⟨_,rfl,rfl⟩|(simp;omega)|(simp;done)))
   rw[zR]
   refine aV (ι:=Nat×List (List UInt8)) Tryz.checked.mixed rfl [2,3,5,15,16,17,37,38,39,51,52,53] (fun y=>[.c (.ptr (0,0) 0),.c (.ptr (0,1) 0),.c (.ptr (0,6) 0),.c (.d (.sl (ps.map bg.enc))),.c (.d (.i .i64 ps.length)),.c (.d (.i .i64 i)),.c (.d (.sl (ps[i].ay.map aL.enc))),.c (.d (.i .i64 ps[i].ay.length)),.c (.d (.i .i64 k')),.c (.d (.sl (ps[i].ay[k'].aJ.map aK.enc))),.c (.d (.i .i64 ps[i].ay[k'].aJ.length)),.c (.d (.i .i64 y.1))]) (fun y=>xR (a++fP ps[i]) (b'++[ps[i].ay[k'].fName]) y.2 d [.box (ps[i].enc.map .d),.box (ps[i].ay[k'].enc.map .d)] S)
    (fun y=>y.1≤ps[i].ay[k'].aJ.length∧y.2=c'++(ps[i].ay[k'].aJ.map aK.fName).take y.1) (fun y=>ps[i].ay[k'].aJ.length-y.1) (0,c') rfl ?_ ⟨Nat.zero_le _,by simp⟩ ?_
   ·unfold xR
    simp -implicitDefEqProofs (disch:=omega) only[go_sem]
   rintro⟨m,c''⟩ ⟨r1,r2⟩
   simp only at r1 r2
   have rl:c''.length≤4194304:=by rw[r2];simp;omega
   unfold xR
   simp -implicitDefEqProofs (disch:=omega) only[go_sem]
   with_reducible refine aS (fun hb=> ?_) (fun hb=> ?_)<;>have h:=hb<;>(try simp only[wf_preprocess] at h)<;>simp -implicitDefEqProofs (disch:=omega) only[go_sem,hb]<;>(repeat(with_reducible refine And.intro ?_ ?_;focus first|omega|rfl|assumption|exact⟨_,rfl,rfl⟩|(simp;omega)|(simp;done)))
   ·have hm:m<ps[i].ay[k'].aJ.length:=by omega
    have rl':c''.length+1≤4194304:=by rw[r2];simp;omega
    (repeat(with_reducible refine And.intro ?_ ?_;focus first|omega|rfl|assumption|exact⟨_,rfl,rfl⟩|(simp;omega)|(simp;done)))
    rw[zR]
    exact dz 8 (by decide) (m+1,c''++[ps[i].ay[k'].aJ[m].fName]) (by simp only;omega) rfl rfl rfl rfl ⟨by simp only;omega,by simp only;rw[r2,gW (by simpa using hm)];simp⟩
   ·have hm:m=ps[i].ay[k'].aJ.length:=by omega
    have hc:c''=c'++ps[i].ay[k'].aJ.map aK.fName:=by rw[r2,List.take_of_length_le (by simp;omega)]
    exact dz 7 (by decide) (k'+1,b'++[ps[i].ay[k'].fName],c'') (by simp only;omega) rfl rfl rfl rfl ⟨by simp only;omega,by simp only;rw[q2,gW (by simpa [iC] using hk)];simp[iC],by simp only;rw[hc,e6,q3,List.append_assoc]⟩
  have hb':b'=b++iC ps[i]:=by rw[q2,List.take_of_length_le (by simp[iC];omega)]
  have hc':c'=c++gG ps[i].ay:=by rw[q3,List.take_of_length_le (by omega)]
  clear q1 q2 q3 hb h
  subst hb'
  subst hc'
  refine aV (ι:=Nat×List (List UInt8)) Tryz.checked.mixed rfl [2,3,5,15,16,17,67,68,69] (fun y=>[.c (.ptr (0,0) 0),.c (.ptr (0,1) 0),.c (.ptr (0,6) 0),.c (.d (.sl (ps.map bg.enc))),.c (.d (.i .i64 ps.length)),.c (.d (.i .i64 i)),.c (.d (.sl (ps[i].aU.map aQ.enc))),.c (.d (.i .i64 ps[i].aU.length)),.c (.d (.i .i64 y.1))]) (fun y=>xR (a++fP ps[i]) (b++iC ps[i]) (c++gG ps[i].ay) y.2 [.box (ps[i].enc.map .d)] S)
   (fun y=>y.1≤ps[i].aU.length∧y.2=d++(fnNames ps[i]).take y.1) (fun y=>ps[i].aU.length-y.1) (0,d) rfl ?_ ⟨Nat.zero_le _,by simp⟩ ?_
  ·unfold xR
   simp -implicitDefEqProofs (disch:=omega) only[go_sem]
  rintro⟨k4,d'⟩ ⟨q1,q2⟩
  simp only at q1 q2
  have ql:d'.length≤4194304:=by rw[q2];simp[fnNames] at *;omega
  unfold xR
  simp -implicitDefEqProofs (disch:=omega) only[go_sem]
  with_reducible refine aS (fun hb=> ?_) (fun hb=> ?_)<;>have h:=hb<;>(try simp only[wf_preprocess] at h)<;>simp -implicitDefEqProofs (disch:=omega) only[go_sem,hb]<;>(repeat(with_reducible refine And.intro ?_ ?_;focus first|omega|rfl|assumption|exact⟨_,rfl,rfl⟩|(simp;omega)|(simp;done)))
  ·have hk:k4<ps[i].aU.length:=by omega
   have ql':d'.length+1≤4194304:=by rw[q2];simp[fnNames] at *;omega
   (repeat(with_reducible refine And.intro ?_ ?_;focus first|omega|rfl|assumption|exact⟨_,rfl,rfl⟩|(simp;omega)|(simp;done)))
   rw[zR]
   exact dz 7 (by decide) (k4+1,d'++[ps[i].aU[k4].fName]) (by simp only;omega) rfl rfl rfl rfl ⟨by simp only;omega,by simp only;rw[q2,gW (by simpa [fnNames] using hk)];simp[fnNames]⟩
  ·have hd:d'=d++fnNames ps[i]:=by rw[q2,List.take_of_length_le (by simp[fnNames];omega)]
   exact dz 6 (by decide) (i+1,a++fP ps[i],b++iC ps[i],c++gG ps[i].ay,d') (by simp only;omega) rfl rfl rfl rfl ⟨by simp only;omega,e2.symm,e3.symm,e4.symm,by simp only;rw[hd,e5]⟩
 ·have hi:i=ps.length:=by omega
  rw[List.take_of_length_le (by omega)] at p2 p3 p4 p5
  rw[p2,p3,p4,p5]
theorem Pp(ps:List bg)(hl:ps.length≤4194304)(hz:aI (ps.map bg.enc)≤4194304):aG Tryz.prog 171 [.c (.d (.sl (ps.map bg.enc)))] (.c (.d (.b (lN ps)))):=fun S=>by
 have hn:=Pm ps
 refine aA (rs:=[.tmp 2]) Tryz.checked.mixed Tryz.func171 Tryz.ntmps171 rfl rfl rfl rfl rfl ?_
 first|refine W1 ?_|exact Z1
 refine ah (QW ps hl hz) ?_
 first|refine W2 ?_|exact Z2
 refine aV (ι:=Int) Tryz.checked.mixed rfl [6,7] (fun i=>[.agg [.d (.sl ((vM ps).map encS)),.d (.sl ((vN ps).map encS)),.d (.sl ((vO ps).map encS)),.d (.sl ((vP ps).map encS))],.c (.d (.i .i64 i))]) (fun _=>[]::S)
  (fun i=>(0≤i∧i≤4)∧(1≤i→(vM ps).Nodup)∧(2≤i→(vN ps).Nodup)∧(3≤i→(vO ps).Nodup)∧(4≤i→(vP ps).Nodup)) (fun i=>(4-i).toNat) 0 rfl rfl ⟨⟨by omega,by omega⟩,by omega,by omega,by omega,by omega⟩ ?_
 rintro i ⟨p0,p1,p2,p3,p4⟩
 have hi:i=0∨i=1∨i=2∨i=3∨i=4:=by omega
 rcases hi with rfl|rfl|rfl|rfl|rfl
 ·first|refine W1 ?_|exact Z1
  refine W3 ?_
  refine ah (nP (vM ps) (by omega)) ?_
  first|refine W2 ?_|exact Z2
  first|refine S0 (fun hb h=>?_) (fun hb h=>?_)|refine S1 fun hb h=>?_|refine S2 fun hb h=>?_|exact S3
  ·exact aB (by unfold lN;rw[aH h];rfl)
  ·exact bL 1 (by decide) rfl rfl ⟨⟨by omega,by omega⟩,fun _=>h,by omega,by omega,by omega⟩
 ·first|refine W1 ?_|exact Z1
  refine W3 ?_
  refine ah (nP (vN ps) (by omega)) ?_
  first|refine W2 ?_|exact Z2
  first|refine S0 (fun hb h=>?_) (fun hb h=>?_)|refine S1 fun hb h=>?_|refine S2 fun hb h=>?_|exact S3
  ·exact aB (by unfold lN;rw[aH h];simp)
  ·exact bL 2 (by decide) rfl rfl ⟨⟨by omega,by omega⟩,fun _=>p1 (by omega),fun _=>h,by omega,by omega⟩
 ·first|refine W1 ?_|exact Z1
  refine W3 ?_
  refine ah (nP (vO ps) (by omega)) ?_
  first|refine W2 ?_|exact Z2
  first|refine S0 (fun hb h=>?_) (fun hb h=>?_)|refine S1 fun hb h=>?_|refine S2 fun hb h=>?_|exact S3
  ·exact aB (by unfold lN;rw[aH h];simp)
  ·exact bL 3 (by decide) rfl rfl ⟨⟨by omega,by omega⟩,fun _=>p1 (by omega),fun _=>p2 (by omega),fun _=>h,by omega⟩
 ·first|refine W1 ?_|exact Z1
  (repeat(with_reducible refine And.intro ?_ ?_;focus first|omega|rfl|assumption|exact⟨_,rfl,rfl⟩|(simp;omega)|(simp;done)))
  refine ah (nP (vP ps) (by omega)) ?_
  first|refine W2 ?_|exact Z2
  first|refine S0 (fun hb h=>?_) (fun hb h=>?_)|refine S1 fun hb h=>?_|refine S2 fun hb h=>?_|exact S3
  ·exact aB (by unfold lN;rw[aH h];simp)
  ·exact bL 4 (by decide) rfl rfl ⟨⟨by omega,by omega⟩,fun _=>p1 (by omega),fun _=>p2 (by omega),fun _=>p3 (by omega),fun _=>h⟩
 ·first|refine W1 ?_|exact Z1
  exact aB (by unfold lN;rw[bJ (p1 (by omega)),bJ (p2 (by omega)),bJ (p3 (by omega)),bJ (p4 (by omega))];rfl)
end Go.Proofs.YtlmhknhlmicmeaaGreatDoor
namespace Go.Ab
noncomputable def qR(p:bg):Bool:=p.aO.all dV&&(p.ay.all fG&&(p.aM.all fD&&p.aU.all jV))
noncomputable def qy(p:bg):Bool:=validName p.fName&&(dec (p.dP.length≤5)&&(iA p.dP&&(!dec (p.fName∈p.dP)&&dec (p.aO.length+p.ay.length+p.aM.length+p.aU.length≤24))))
noncomputable def validPkg(p:bg):Bool:=qy p&&(lN [p]&&qR p)
theorem bg.sum(x:bg):x.fName.length+(x.dP.length+aI (x.dP.map encS))+(x.aO.length+aI (x.aO.map bn.enc))+(x.ay.length+aI (x.ay.map aL.enc))+(x.aM.length+aI (x.aM.map aN.enc))+(x.aU.length+aI (x.aU.map aQ.enc))≤x.sz:=by
 simp only[bg.sz,bg.aC,bP,bA,D.sz,List.length_map]
 omega
theorem tq{α:Type}{f:α→Bool}{xs:List α}{i:Nat}(hi:i<xs.length):(xs.drop i).all f=(f xs[i]&&(xs.drop (i+1)).all f):=by
 rw[List.drop_eq_getElem_cons hi,List.all_cons]
end Go.Ab
namespace Go.Proofs.YtlmhknhlmicmeaaGreatDoor
open Go Go.Ab
theorem Ki(xs:List (List UInt8))(s:List UInt8)(hl:xs.length≤1073741824):aG Tryz.prog 170 [.c (.d (.sl (xs.map encS))),.c (.d (.s s))] (.c (.d (.i .i64 (uf xs s)))):=fun S=>by
 refine aA (rs:=[.tmp 4]) Tryz.checked.mixed Tryz.func170 Tryz.ntmps170 rfl rfl rfl rfl rfl ?_
 first|refine W1 ?_|exact Z1
 refine ah (KX xs s hl) ?_
 first|refine W2 ?_|exact Z2
set_option maxHeartbeats 4000000 in
theorem vQ(p:bg)(hsz:p.sz≤4194304):aG Tryz.prog 66 [p.v] (.c (.d (.b (validPkg p)))):=fun S=>by
 have hs:=bg.sum p
 have hV:∀s∈p.dP,s.length≤4194304:=fun s h=>by have:=pG h;omega
 have no:qy p=false→V.c (.d (.b false))=V.c (.d (.b (validPkg p))):=fun h=>aB (by unfold validPkg;rw[h];rfl)
 have hu:=Pp [p] (by simp) (by simp[aI];have:bP p.enc=p.sz:=rfl;omega)
 have hix:decide (uf p.dP p.fName≥0)=dec (p.fName∈p.dP):=Hf
 refine aA (rs:=[.tmp 2]) Tryz.checked.mixed Tryz.func66 Tryz.ntmps66 rfl rfl rfl rfl rfl ?_
 first|refine W1 ?_|exact Z1
 refine ah (gJ p.fName (by omega)) ?_
 first|refine W2 ?_|exact Z2
 first|refine S0 (fun hb h=>?_) (fun hb h=>?_)|refine S1 fun hb h=>?_|refine S2 fun hb h=>?_|exact S3
 ·exact no (by unfold qy;rw[h];rfl)
 have k1:=h
 first|refine S0 (fun hb h=>?_) (fun hb h=>?_)|refine S1 fun hb h=>?_|refine S2 fun hb h=>?_|exact S3
 ·exact no (by unfold qy;rw[aH (show ¬p.dP.length≤5 by omega)];simp)
 have k2:=h
 refine W3 ?_
 refine ah (nA p.dP (by omega) hV) ?_
 first|refine W2 ?_|exact Z2
 first|refine S0 (fun hb h=>?_) (fun hb h=>?_)|refine S1 fun hb h=>?_|refine S2 fun hb h=>?_|exact S3
 ·exact no (by unfold qy;rw[h];simp)
 have k3:=h
 refine W3 ?_
 refine ah (Ki p.dP p.fName (by omega)) ?_
 first|refine W1 ?_|exact Z1
 rw[show decide (0≤uf p.dP p.fName)=dec (p.fName∈p.dP) from hix]
 first|refine S0 (fun hb h=>?_) (fun hb h=>?_)|refine S1 fun hb h=>?_|refine S2 fun hb h=>?_|exact S3
 ·exact no (by unfold qy;rw[bJ h];simp)
 have k4:=h
 first|refine S0 (fun hb h=>?_) (fun hb h=>?_)|refine S1 fun hb h=>?_|refine S2 fun hb h=>?_|exact S3
 ·exact no (by unfold qy;rw[aH (show ¬p.aO.length+p.ay.length+p.aM.length+p.aU.length≤24 by omega)];simp)
 have hh:qy p=true:=by unfold qy;rw[k1,k3,bJ (show p.dP.length≤5 by omega),aH k4,bJ (by omega)];rfl
 simp only[List.map_cons,List.map_nil] at hu
 refine W3 ?_
 refine ah hu ?_
 first|refine W1 ?_|exact Z1
 clear hu hix no k1 k2 k3 k4
 have fin:validPkg p=((((lN [p]&&p.aO.all dV)&&p.ay.all fG)&&p.aM.all fD)&&p.aU.all jV):=by unfold validPkg qR;rw[hh];simp[Bool.and_assoc]
 generalize lN [p]=b0 at fin ⊢
 refine aV (ι:=Nat×Bool) Tryz.checked.mixed rfl [1,3,56,57,58] (fun y=>[.c (.ptr (0,0) 0),.c (.d (.b y.2)),.c (.d (.sl (p.aO.map bn.enc))),.c (.d (.i .i64 p.aO.length)),.c (.d (.i .i64 y.1))]) (fun _=>[.box (p.enc.map .d)]::S)
  (fun y=>y.1≤p.aO.length∧(y.2&&(p.aO.drop y.1).all dV)=(b0&&p.aO.all dV)) (fun y=>p.aO.length-y.1) (0,b0) rfl ?_ ⟨Nat.zero_le _,rfl⟩ ?_
 ·first|refine W1 ?_|exact Z1
 rintro⟨i,b⟩ ⟨p1,p2⟩
 simp only at p1 p2
 first|refine W1 ?_|exact Z1
 with_reducible refine aS (fun hb=> ?_) (fun hb=> ?_)<;>have h:=hb<;>(try simp only[wf_preprocess] at h)<;>simp -implicitDefEqProofs (disch:=omega) only[go_sem,hb]<;>(repeat(with_reducible refine And.intro ?_ ?_;focus first|omega|rfl|assumption|exact⟨_,rfl,rfl⟩|(simp;omega)|(simp;done)))
 ·have hi:i<p.aO.length:=by omega
  have hx:p.aO[i].sz≤aI (p.aO.map bn.enc):=bI (List.mem_map_of_mem (List.getElem_mem hi))
  rw[tq hi] at p2
  refine W3 ?_
  first|refine S0 (fun hb h=>?_) (fun hb h=>?_)|refine S1 fun hb h=>?_|refine S2 fun hb h=>?_|exact S3
  ·have hb1:=h
   rw[hb1,Bool.true_and] at p2
   refine ah (EH p.aO[i] (by omega)) ?_
   first|refine W2 ?_|exact Z2
   exact dz 1 (by decide) (i+1,dV p.aO[i]) (by simp only;omega) rfl rfl rfl rfl ⟨by simp only;omega,p2⟩
  ·have hb1:=h
   rw[hb1,Bool.false_and] at p2
   exact dz 1 (by decide) (i+1,false) (by simp only;omega) rfl rfl rfl rfl ⟨by simp only;omega,p2⟩
 rw[List.drop_of_length_le (by omega),List.all_nil,Bool.and_true] at p2
 rw[←p2] at fin
 clear p2 p1 hb h
 generalize b=b1 at fin ⊢
 refine aV (ι:=Nat×Bool) Tryz.checked.mixed rfl [1,3,69,70,71] (fun y=>[.c (.ptr (0,0) 0),.c (.d (.b y.2)),.c (.d (.sl (p.ay.map aL.enc))),.c (.d (.i .i64 p.ay.length)),.c (.d (.i .i64 y.1))]) (fun _=>[.box (p.enc.map .d)]::S)
  (fun y=>y.1≤p.ay.length∧(y.2&&(p.ay.drop y.1).all fG)=(b1&&p.ay.all fG)) (fun y=>p.ay.length-y.1) (0,b1) rfl ?_ ⟨Nat.zero_le _,rfl⟩ ?_
 ·first|refine W1 ?_|exact Z1
 rintro⟨i,b⟩ ⟨p1,p2⟩
 simp only at p1 p2
 first|refine W1 ?_|exact Z1
 with_reducible refine aS (fun hb=> ?_) (fun hb=> ?_)<;>have h:=hb<;>(try simp only[wf_preprocess] at h)<;>simp -implicitDefEqProofs (disch:=omega) only[go_sem,hb]<;>(repeat(with_reducible refine And.intro ?_ ?_;focus first|omega|rfl|assumption|exact⟨_,rfl,rfl⟩|(simp;omega)|(simp;done)))
 ·have hi:i<p.ay.length:=by omega
  have hx:p.ay[i].sz≤aI (p.ay.map aL.enc):=bI (List.mem_map_of_mem (List.getElem_mem hi))
  rw[tq hi] at p2
  refine W3 ?_
  first|refine S0 (fun hb h=>?_) (fun hb h=>?_)|refine S1 fun hb h=>?_|refine S2 fun hb h=>?_|exact S3
  ·have hb1:=h
   rw[hb1,Bool.true_and] at p2
   refine ah (F7 p.ay[i] (by omega)) ?_
   first|refine W2 ?_|exact Z2
   exact dz 1 (by decide) (i+1,fG p.ay[i]) (by simp only;omega) rfl rfl rfl rfl ⟨by simp only;omega,p2⟩
  ·have hb1:=h
   rw[hb1,Bool.false_and] at p2
   exact dz 1 (by decide) (i+1,false) (by simp only;omega) rfl rfl rfl rfl ⟨by simp only;omega,p2⟩
 rw[List.drop_of_length_le (by omega),List.all_nil,Bool.and_true] at p2
 rw[←p2] at fin
 clear p2 p1 hb h
 generalize b=b2 at fin ⊢
 refine aV (ι:=Nat×Bool) Tryz.checked.mixed rfl [1,3,82,83,84] (fun y=>[.c (.ptr (0,0) 0),.c (.d (.b y.2)),.c (.d (.sl (p.aM.map aN.enc))),.c (.d (.i .i64 p.aM.length)),.c (.d (.i .i64 y.1))]) (fun _=>[.box (p.enc.map .d)]::S)
  (fun y=>y.1≤p.aM.length∧(y.2&&(p.aM.drop y.1).all fD)=(b2&&p.aM.all fD)) (fun y=>p.aM.length-y.1) (0,b2) rfl ?_ ⟨Nat.zero_le _,rfl⟩ ?_
 ·first|refine W1 ?_|exact Z1
 rintro⟨i,b⟩ ⟨p1,p2⟩
 simp only at p1 p2
 first|refine W1 ?_|exact Z1
 with_reducible refine aS (fun hb=> ?_) (fun hb=> ?_)<;>have h:=hb<;>(try simp only[wf_preprocess] at h)<;>simp -implicitDefEqProofs (disch:=omega) only[go_sem,hb]<;>(repeat(with_reducible refine And.intro ?_ ?_;focus first|omega|rfl|assumption|exact⟨_,rfl,rfl⟩|(simp;omega)|(simp;done)))
 ·have hi:i<p.aM.length:=by omega
  have hx:p.aM[i].sz≤aI (p.aM.map aN.enc):=bI (List.mem_map_of_mem (List.getElem_mem hi))
  rw[tq hi] at p2
  refine W3 ?_
  first|refine S0 (fun hb h=>?_) (fun hb h=>?_)|refine S1 fun hb h=>?_|refine S2 fun hb h=>?_|exact S3
  ·have hb1:=h
   rw[hb1,Bool.true_and] at p2
   refine ah (Gf p.aM[i] (by omega)) ?_
   first|refine W2 ?_|exact Z2
   exact dz 1 (by decide) (i+1,fD p.aM[i]) (by simp only;omega) rfl rfl rfl rfl ⟨by simp only;omega,p2⟩
  ·have hb1:=h
   rw[hb1,Bool.false_and] at p2
   exact dz 1 (by decide) (i+1,false) (by simp only;omega) rfl rfl rfl rfl ⟨by simp only;omega,p2⟩
 rw[List.drop_of_length_le (by omega),List.all_nil,Bool.and_true] at p2
 rw[←p2] at fin
 clear p2 p1 hb h
 generalize b=b3 at fin ⊢
 refine aV (ι:=Nat×Bool) Tryz.checked.mixed rfl [3,95,96,97] (fun y=>[.c (.d (.b y.2)),.c (.d (.sl (p.aU.map aQ.enc))),.c (.d (.i .i64 p.aU.length)),.c (.d (.i .i64 y.1))]) (fun _=>[.box (p.enc.map .d)]::S)
  (fun y=>y.1≤p.aU.length∧(y.2&&(p.aU.drop y.1).all jV)=(b3&&p.aU.all jV)) (fun y=>p.aU.length-y.1) (0,b3) rfl ?_ ⟨Nat.zero_le _,rfl⟩ ?_
 ·first|refine W1 ?_|exact Z1
 rintro⟨i,b⟩ ⟨p1,p2⟩
 simp only at p1 p2
 first|refine W1 ?_|exact Z1
 with_reducible refine aS (fun hb=> ?_) (fun hb=> ?_)<;>have h:=hb<;>(try simp only[wf_preprocess] at h)<;>simp -implicitDefEqProofs (disch:=omega) only[go_sem,hb]<;>(repeat(with_reducible refine And.intro ?_ ?_;focus first|omega|rfl|assumption|exact⟨_,rfl,rfl⟩|(simp;omega)|(simp;done)))
 ·have hi:i<p.aU.length:=by omega
  have hx:p.aU[i].sz≤aI (p.aU.map aQ.enc):=bI (List.mem_map_of_mem (List.getElem_mem hi))
  rw[tq hi] at p2
  refine W3 ?_
  first|refine S0 (fun hb h=>?_) (fun hb h=>?_)|refine S1 fun hb h=>?_|refine S2 fun hb h=>?_|exact S3
  ·have hb1:=h
   rw[hb1,Bool.true_and] at p2
   refine ah (Kg p.aU[i] (by omega)) ?_
   first|refine W2 ?_|exact Z2
   exact dz 1 (by decide) (i+1,jV p.aU[i]) (by simp only;omega) rfl rfl rfl rfl ⟨by simp only;omega,p2⟩
  ·have hb1:=h
   rw[hb1,Bool.false_and] at p2
   exact dz 1 (by decide) (i+1,false) (by simp only;omega) rfl rfl rfl rfl ⟨by simp only;omega,p2⟩
 rw[List.drop_of_length_le (by omega),List.all_nil,Bool.and_true] at p2
 rw[←p2] at fin
 clear p2 p1 hb h
 exact aB fin.symm
set_option maxHeartbeats 4000000 in
theorem QX(p:bg)(hsz:p.sz≤4194304):aG Tryz.prog 155 [p.v] (.c (.d (.b (qR p)))):=fun S=>by
 have hs:=bg.sum p
 refine aA (rs:=[.tmp 2]) Tryz.checked.mixed Tryz.func155 Tryz.ntmps155 rfl rfl rfl rfl rfl ?_
 first|refine W1 ?_|exact Z1
 refine aV (ι:=Nat) Tryz.checked.mixed rfl [1,3] (fun i=>[.c (.ptr (0,0) 0),.c (.d (.i .i64 i))]) (fun _=>[.box (p.enc.map .d)]::S)
  (fun i=>i≤p.aO.length∧(p.aO.drop i).all dV=p.aO.all dV) (fun i=>p.aO.length-i) 0 rfl ?_ ⟨Nat.zero_le _,rfl⟩ ?_
 ·first|refine W1 ?_|exact Z1
 rintro i ⟨p1,p2⟩
 first|refine W1 ?_|exact Z1
 with_reducible refine aS (fun hb=> ?_) (fun hb=> ?_)<;>have h:=hb<;>(try simp only[wf_preprocess] at h)<;>simp -implicitDefEqProofs (disch:=omega) only[go_sem,hb]<;>(repeat(with_reducible refine And.intro ?_ ?_;focus first|omega|rfl|assumption|exact⟨_,rfl,rfl⟩|(simp;omega)|(simp;done)))
 ·have hi:i<p.aO.length:=by omega
  have hx:p.aO[i].sz≤aI (p.aO.map bn.enc):=bI (List.mem_map_of_mem (List.getElem_mem hi))
  rw[tq hi] at p2
  refine W3 ?_
  refine ah (om p.aO[i] (by omega)) ?_
  first|refine W2 ?_|exact Z2
  first|refine S0 (fun hb h=>?_) (fun hb h=>?_)|refine S1 fun hb h=>?_|refine S2 fun hb h=>?_|exact S3
  ·exact aB (by unfold qR;rw[←p2,h];simp)
  ·rw[h,Bool.true_and] at p2
   exact bL (i+1) (by omega) rfl rfl ⟨by omega,p2⟩
 rw[List.drop_of_length_le (by omega),List.all_nil] at p2
 have f3:=p2.symm
 clear p2 p1 hb h
 refine aV (ι:=Nat) Tryz.checked.mixed rfl [1,4] (fun i=>[.c (.ptr (0,0) 0),.c (.d (.i .i64 i))]) (fun _=>[.box (p.enc.map .d)]::S)
  (fun i=>i≤p.ay.length∧(p.ay.drop i).all fG=p.ay.all fG) (fun i=>p.ay.length-i) 0 rfl ?_ ⟨Nat.zero_le _,rfl⟩ ?_
 ·first|refine W1 ?_|exact Z1
 rintro i ⟨p1,p2⟩
 first|refine W1 ?_|exact Z1
 with_reducible refine aS (fun hb=> ?_) (fun hb=> ?_)<;>have h:=hb<;>(try simp only[wf_preprocess] at h)<;>simp -implicitDefEqProofs (disch:=omega) only[go_sem,hb]<;>(repeat(with_reducible refine And.intro ?_ ?_;focus first|omega|rfl|assumption|exact⟨_,rfl,rfl⟩|(simp;omega)|(simp;done)))
 ·have hi:i<p.ay.length:=by omega
  have hx:p.ay[i].sz≤aI (p.ay.map aL.enc):=bI (List.mem_map_of_mem (List.getElem_mem hi))
  rw[tq hi] at p2
  refine W3 ?_
  refine ah (zm p.ay[i] (by omega)) ?_
  first|refine W2 ?_|exact Z2
  first|refine S0 (fun hb h=>?_) (fun hb h=>?_)|refine S1 fun hb h=>?_|refine S2 fun hb h=>?_|exact S3
  ·exact aB (by unfold qR;rw[←p2,h];simp)
  ·rw[h,Bool.true_and] at p2
   exact bL (i+1) (by omega) rfl rfl ⟨by omega,p2⟩
 rw[List.drop_of_length_le (by omega),List.all_nil] at p2
 have f4:=p2.symm
 clear p2 p1 hb h
 refine aV (ι:=Nat) Tryz.checked.mixed rfl [1,5] (fun i=>[.c (.ptr (0,0) 0),.c (.d (.i .i64 i))]) (fun _=>[.box (p.enc.map .d)]::S)
  (fun i=>i≤p.aM.length∧(p.aM.drop i).all fD=p.aM.all fD) (fun i=>p.aM.length-i) 0 rfl ?_ ⟨Nat.zero_le _,rfl⟩ ?_
 ·first|refine W1 ?_|exact Z1
 rintro i ⟨p1,p2⟩
 first|refine W1 ?_|exact Z1
 with_reducible refine aS (fun hb=> ?_) (fun hb=> ?_)<;>have h:=hb<;>(try simp only[wf_preprocess] at h)<;>simp -implicitDefEqProofs (disch:=omega) only[go_sem,hb]<;>(repeat(with_reducible refine And.intro ?_ ?_;focus first|omega|rfl|assumption|exact⟨_,rfl,rfl⟩|(simp;omega)|(simp;done)))
 ·have hi:i<p.aM.length:=by omega
  have hx:p.aM[i].sz≤aI (p.aM.map aN.enc):=bI (List.mem_map_of_mem (List.getElem_mem hi))
  rw[tq hi] at p2
  refine W3 ?_
  refine ah (ng p.aM[i] (by omega)) ?_
  first|refine W2 ?_|exact Z2
  first|refine S0 (fun hb h=>?_) (fun hb h=>?_)|refine S1 fun hb h=>?_|refine S2 fun hb h=>?_|exact S3
  ·exact aB (by unfold qR;rw[←p2,h];simp)
  ·rw[h,Bool.true_and] at p2
   exact bL (i+1) (by omega) rfl rfl ⟨by omega,p2⟩
 rw[List.drop_of_length_le (by omega),List.all_nil] at p2
 have f5:=p2.symm
 clear p2 p1 hb h
 refine aV (ι:=Nat) Tryz.checked.mixed rfl [1,6] (fun i=>[.c (.ptr (0,0) 0),.c (.d (.i .i64 i))]) (fun _=>[.box (p.enc.map .d)]::S)
  (fun i=>i≤p.aU.length∧(p.aU.drop i).all jV=p.aU.all jV) (fun i=>p.aU.length-i) 0 rfl ?_ ⟨Nat.zero_le _,rfl⟩ ?_
 ·first|refine W1 ?_|exact Z1
 rintro i ⟨p1,p2⟩
 first|refine W1 ?_|exact Z1
 with_reducible refine aS (fun hb=> ?_) (fun hb=> ?_)<;>have h:=hb<;>(try simp only[wf_preprocess] at h)<;>simp -implicitDefEqProofs (disch:=omega) only[go_sem,hb]<;>(repeat(with_reducible refine And.intro ?_ ?_;focus first|omega|rfl|assumption|exact⟨_,rfl,rfl⟩|(simp;omega)|(simp;done)))
 ·have hi:i<p.aU.length:=by omega
  have hx:p.aU[i].sz≤aI (p.aU.map aQ.enc):=bI (List.mem_map_of_mem (List.getElem_mem hi))
  rw[tq hi] at p2
  refine W3 ?_
  refine ah (wI p.aU[i] (by omega)) ?_
  first|refine W2 ?_|exact Z2
  first|refine S0 (fun hb h=>?_) (fun hb h=>?_)|refine S1 fun hb h=>?_|refine S2 fun hb h=>?_|exact S3
  ·exact aB (by unfold qR;rw[←p2,h];simp)
  ·rw[h,Bool.true_and] at p2
   exact bL (i+1) (by omega) rfl rfl ⟨by omega,p2⟩
 rw[List.drop_of_length_le (by omega),List.all_nil] at p2
 have f6:=p2.symm
 clear p2 p1 hb h
 exact aB (by unfold qR;rw[f3,f4,f5,f6];rfl)
end Go.Proofs.YtlmhknhlmicmeaaGreatDoor
namespace Go.Ab
theorem acv(p:bg):vM [p]=fP p:=by simp[vM]
theorem acw(p:bg):vN [p]=iC p:=by simp[vN]
theorem acy(p:bg):vO [p]=gG p.ay:=by simp[vO]
theorem acz(p:bg):vP [p]=fnNames p:=by simp[vP]
end Go.Ab
namespace Go.Proofs.YtlmhknhlmicmeaaGreatDoor
open Go Go.Ab
set_option maxHeartbeats 2000000 in
theorem vR(p:bg)(hsz:p.sz≤4194304):aG Tryz.prog 52 [p.v] (.c (.d (.b (validPkg p)))):=fun S=>by
 have hs:=bg.sum p
 have hb:=bg.bounds hsz
 have hV:∀s∈p.dP,s.length≤4194304:=fun s h=>by have:=pG h;omega
 have l1:(fP p).length≤1073741824:=by simp[fP];omega
 have l2:(iC p).length≤1073741824:=by simp[iC];omega
 have l3:(gG p.ay).length≤1073741824:=by omega
 have l4:(fnNames p).length≤1073741824:=by simp[fnNames];omega
 refine aA (rs:=[.tmp 2]) Tryz.checked.mixed Tryz.func52 Tryz.ntmps52 rfl rfl rfl rfl rfl ?_
 first|refine W1 ?_|exact Z1
 refine ah (QV p hsz) ?_
 first|refine W1 ?_|exact Z1
 repeat' (first
  |with_reducible refine aS (fun hb=> ?_) (fun hb=> ?_)<;>have h:=hb<;>(try simp only[wf_preprocess] at h)<;>simp -implicitDefEqProofs (disch:=omega) only[go_sem,hb]<;>(repeat(with_reducible refine And.intro ?_ ?_;focus first|omega|rfl|assumption|exact⟨_,rfl,rfl⟩|(simp;omega)|(simp;done)))
  |((with_reducible show fq _ _ 152 _ _ _ _);refine ah (gK p.fName (by omega)) ?_;simp -implicitDefEqProofs (disch:=omega) only[go_sem])
  |((with_reducible show fq _ _ 153 _ _ _ _);refine ah (kK p.dP 5 (by omega) hV) ?_;simp -implicitDefEqProofs (disch:=omega) only[go_sem])
  |((with_reducible show fq _ _ 135 _ _ _ _);refine ah (qN p.dP p.fName (by omega)) ?_;simp -implicitDefEqProofs (disch:=omega) only[go_sem])
  |((with_reducible show fq _ _ 154 _ _ _ _);refine ah (nQ (fP p) l1) ?_;simp -implicitDefEqProofs (disch:=omega) only[go_sem])
  |((with_reducible show fq _ _ 154 _ _ _ _);refine ah (nQ (iC p) l2) ?_;simp -implicitDefEqProofs (disch:=omega) only[go_sem])
  |((with_reducible show fq _ _ 154 _ _ _ _);refine ah (nQ (gG p.ay) l3) ?_;simp -implicitDefEqProofs (disch:=omega) only[go_sem])
  |((with_reducible show fq _ _ 154 _ _ _ _);refine ah (nQ (fnNames p) l4) ?_;simp -implicitDefEqProofs (disch:=omega) only[go_sem])
  |((with_reducible show fq _ _ 155 _ _ _ _);refine ah (QX p hsz) ?_;simp -implicitDefEqProofs (disch:=omega) only[go_sem])
  |(refine aB ?_;unfold validPkg qy lN;rw[acv,acw,acy,acz];grind [ji,iW,bJ,aH]))
end Go.Proofs.YtlmhknhlmicmeaaGreatDoor
namespace Go.Ab
def Kj:List UInt8:=[112,97,99,107,97,103,101]
def gH(p:bg):List ak:=p.aO.map mZ++(p.ay.map zO++(p.aM.map sZ++p.aU.map AV))
noncomputable def mR(p:bg):List ak:=p.aO.map uq++(p.ay.map Aa++(p.aM.map Ae++p.aU.map BZ))
def eG(p:bg):List ak:=[cu Kj,cu p.fName,cO (bf p.dP)]
def zu(p:bg):ak:=cO (eG p++gH p)
noncomputable def DX(p:bg):ak:=sH (validPkg p&&(gH p).all jI) (zu p)
theorem aa9{p:bg}(h:p.sz≤1048576):(DX p).sz≤1048576:=Nat.le_trans (aaI _ _) (by decide)
theorem qU(p:bg):(eG p++gH p).length=3+p.aO.length+p.ay.length+p.aM.length+p.aU.length:=by simp[eG,gH];omega
theorem I9(p:bg):(eG p++mR p).length=3+p.aO.length+p.ay.length+p.aM.length+p.aU.length:=by simp[eG,mR];omega
theorem Lp{p:bg}{i:Nat}(hi:i<p.aO.length):(eG p++gH p)[3+i]? =some (mZ p.aO[i]):=by
 unfold gH
 rw[List.getElem?_append_right (by simp[eG]<;>omega),List.getElem?_append_left (by simp[eG]<;>omega),List.getElem?_map]
 have e:3+i-(eG p).length=i:=by simp[eG]<;>omega
 rw[e,List.getElem?_eq_getElem hi];rfl
theorem Lr{p:bg}{i:Nat}(hi:i<p.ay.length):(eG p++gH p)[3+p.aO.length+i]? =some (zO p.ay[i]):=by
 unfold gH
 rw[List.getElem?_append_right (by simp[eG]<;>omega),List.getElem?_append_right (by simp[eG]<;>omega),List.getElem?_append_left (by simp[eG]<;>omega),List.getElem?_map]
 have e:3+p.aO.length+i-(eG p).length-(p.aO.map mZ).length=i:=by simp[eG]<;>omega
 rw[e,List.getElem?_eq_getElem hi];rfl
theorem Ja{p:bg}{i:Nat}(hi:i<p.aM.length):(eG p++gH p)[3+p.aO.length+p.ay.length+i]? =some (sZ p.aM[i]):=by
 unfold gH
 rw[List.getElem?_append_right (by simp[eG]<;>omega),List.getElem?_append_right (by simp[eG]<;>omega),List.getElem?_append_right (by simp[eG]<;>omega),List.getElem?_append_left (by simp[eG]<;>omega),List.getElem?_map]
 have e:3+p.aO.length+p.ay.length+i-(eG p).length-(p.aO.map mZ).length-(p.ay.map zO).length=i:=by simp[eG]<;>omega
 rw[e,List.getElem?_eq_getElem hi];rfl
theorem Ls{p:bg}{i:Nat}(hi:i<p.aU.length):(eG p++gH p)[3+p.aO.length+p.ay.length+p.aM.length+i]? =some (AV p.aU[i]):=by
 unfold gH
 rw[List.getElem?_append_right (by simp[eG]<;>omega),List.getElem?_append_right (by simp[eG]<;>omega),List.getElem?_append_right (by simp[eG]<;>omega),List.getElem?_append_right (by simp[eG]<;>omega),List.getElem?_map]
 have e:3+p.aO.length+p.ay.length+p.aM.length+i-(eG p).length-(p.aO.map mZ).length-(p.ay.map zO).length-(p.aM.map sZ).length=i:=by simp[eG]<;>omega
 rw[e,List.getElem?_eq_getElem hi];rfl
theorem Lu{p:bg}{i:Nat}(hi:i<p.aO.length):(eG p++mR p)[3+i]? =some (uq p.aO[i]):=by
 unfold mR
 rw[List.getElem?_append_right (by simp[eG]<;>omega),List.getElem?_append_left (by simp[eG]<;>omega),List.getElem?_map]
 have e:3+i-(eG p).length=i:=by simp[eG]<;>omega
 rw[e,List.getElem?_eq_getElem hi];rfl
theorem Lv{p:bg}{i:Nat}(hi:i<p.ay.length):(eG p++mR p)[3+p.aO.length+i]? =some (Aa p.ay[i]):=by
 unfold mR
 rw[List.getElem?_append_right (by simp[eG]<;>omega),List.getElem?_append_right (by simp[eG]<;>omega),List.getElem?_append_left (by simp[eG]<;>omega),List.getElem?_map]
 have e:3+p.aO.length+i-(eG p).length-(p.aO.map uq).length=i:=by simp[eG]<;>omega
 rw[e,List.getElem?_eq_getElem hi];rfl
theorem Jb{p:bg}{i:Nat}(hi:i<p.aM.length):(eG p++mR p)[3+p.aO.length+p.ay.length+i]? =some (Ae p.aM[i]):=by
 unfold mR
 rw[List.getElem?_append_right (by simp[eG]<;>omega),List.getElem?_append_right (by simp[eG]<;>omega),List.getElem?_append_right (by simp[eG]<;>omega),List.getElem?_append_left (by simp[eG]<;>omega),List.getElem?_map]
 have e:3+p.aO.length+p.ay.length+i-(eG p).length-(p.aO.map uq).length-(p.ay.map Aa).length=i:=by simp[eG]<;>omega
 rw[e,List.getElem?_eq_getElem hi];rfl
theorem Lx{p:bg}{i:Nat}(hi:i<p.aU.length):(eG p++mR p)[3+p.aO.length+p.ay.length+p.aM.length+i]? =some (BZ p.aU[i]):=by
 unfold mR
 rw[List.getElem?_append_right (by simp[eG]<;>omega),List.getElem?_append_right (by simp[eG]<;>omega),List.getElem?_append_right (by simp[eG]<;>omega),List.getElem?_append_right (by simp[eG]<;>omega),List.getElem?_map]
 have e:3+p.aO.length+p.ay.length+p.aM.length+i-(eG p).length-(p.aO.map uq).length-(p.ay.map Aa).length-(p.aM.map Ae).length=i:=by simp[eG]<;>omega
 rw[e,List.getElem?_eq_getElem hi];rfl
theorem zw{α:Type}(f:α→ak)(e:α→List D)(sz:α→Nat)(hs:∀a,sz a=bP (e a))(c k:Nat):∀l:List α,(∀a∈l,(f a).sz≤c+k*sz a)→gq (l.map f)≤c*l.length+k*aI (l.map e)
 |[],_=>by simp[gq]
 |a::l,h=>by
  have h1:=h a (List.mem_cons_self ..)
  have h2:=zw f e sz hs c k l fun b hb=>h b (List.mem_cons_of_mem _ hb)
  rw[hs] at h1
  rw[List.map_cons,gq,List.map_cons,aI,List.length_cons,Nat.mul_add,Nat.mul_add];omega
theorem oJ{p:bg}(h:validPkg p=true):(∀t∈p.aO,dV t=true)∧(∀t∈p.ay,fG t=true)∧(∀t∈p.aM,fD t=true)∧(∀t∈p.aU,jV t=true)∧p.aO.length+p.ay.length+p.aM.length+p.aU.length≤24:=by
 unfold validPkg qy qR at h
 simp only[Bool.and_eq_true] at h
 obtain⟨⟨_,_,_,_,h0⟩,_,h1,h2,h3,h4⟩:=h
 exact⟨List.all_eq_true.1 h1,List.all_eq_true.1 h2,List.all_eq_true.1 h3,List.all_eq_true.1 h4,ji h0⟩
theorem Jc{p:bg}(hv:validPkg p=true):(zu p).sz≤4096+50*p.sz∧gq (gH p)≤4000+50*p.sz:=by
 obtain⟨v1,v2,v3,v4,v5⟩:=oJ hv
 have h1:=zw mZ bn.enc bn.sz (fun _=>rfl) 96 49 p.aO fun t ht=>by have:=Ew (v1 t ht);omega
 have h2:=zw zO aL.enc aL.sz (fun _=>rfl) 96 49 p.ay fun t ht=>by have:=WI t;omega
 have h3:=zw sZ aN.enc aN.sz (fun _=>rfl) 96 49 p.aM fun t ht=>by have:=DV (v3 t ht);omega
 have h4:=zw AV aQ.enc aQ.sz (fun _=>rfl) 96 49 p.aU fun t ht=>by have:=WO (xQ (v4 t ht)).2.2.2;omega
 have h5:=bg.sum p
 rw[dM] at h5
 have h6:gq (gH p)≤4000+50*p.sz:=by
  unfold gH;rw[gZ,gZ,gZ];omega
 have h7:gq (gH p)=gq (p.aO.map mZ)+(gq (p.ay.map zO)+(gq (p.aM.map sZ)+gq (p.aU.map AV))):=by
  unfold gH;rw[gZ,gZ,gZ]
 refine⟨?_,h6⟩
 rw[zu,iY,gZ,qU]
 simp[eG,gq,jo,iY,iR,oD,Kj];omega
theorem Gg:∀(l:List ak) (n:Nat),∃ps:List (Nat×ak),lx l n=(ps.map fun q=>[.s q.2.dI,.ol q.1 (lx q.2.bF (q.1+1))])∧ps.map Prod.snd=l
 |[],n=>⟨[],rfl,rfl⟩
 |x::l,n=>by
  obtain⟨ps,h1,h2⟩:=Gg l (n+dL x)
  exact⟨(n,x)::ps,by rw[iN,h1,iM];rfl,by rw[List.map_cons,h2]⟩
theorem LA{p:bg}(hv:validPkg p=true):mR p=(gH p).map rV:=by
 obtain⟨v1,v2,v3,v4,_⟩:=oJ hv
 unfold mR gH
 rw[List.map_append,List.map_append,List.map_append,List.map_map,List.map_map,List.map_map,List.map_map]
 congr 1
 ·exact List.map_congr_left fun t ht=>by unfold uq;rw[v1 t ht];rfl
 congr 1
 ·exact List.map_congr_left fun t ht=>by unfold Aa;rw[v2 t ht];rfl
 congr 1
 ·exact List.map_congr_left fun t ht=>by unfold Ae;rw[v3 t ht];rfl
 ·exact List.map_congr_left fun t ht=>by unfold BZ;rw[v4 t ht];rfl
theorem WU{p:bg}:∀x∈gH p,x.bF≠[]:=fun x hx=>by
 unfold gH at hx
 simp only[List.mem_append,List.mem_map] at hx
 rcases hx with⟨t,_,rfl⟩|⟨t,_,rfl⟩|⟨t,_,rfl⟩|⟨t,_,rfl⟩
 ·rw[mZ,dF,iF];simp
 ·rw[zO,dF,baseD];simp
 ·rw[sZ,dF,lF];simp
 ·rw[AV,dF];simp
end Go.Ab
namespace Go.Proofs.YtlmhknhlmicmeaaGreatDoor
open Go Go.Ab
set_option maxHeartbeats 4000000 in
theorem Zl(p:bg)(n:Nat)(hv:validPkg p=true)(hsz:p.sz≤1048576)(hall:∀x∈gH p,jI x=true):aG Tryz.prog 13 [p.v] (.agg [.d (.s (rV (zu p)).dI),.d (.ol n (lx (rV (zu p)).bF (n+1)))]):=fun S=>by
 have hdz:=bg.sum p
 rw[dM] at hdz
 obtain⟨v1,v2,v3,v4,v5⟩:=oJ hv
 obtain⟨hz,hzp⟩:=Jc hv
 obtain⟨PL,uZ⟩:∃PL:List ak,PL=eG p++gH p:=⟨_,rfl⟩
 obtain⟨L,hL⟩:∃L:Nat→Nat,L=fun i=>n+1+gT (PL.take i):=⟨_,rfl⟩
 obtain⟨T,hT⟩:∃T:Nat→List (List D),T=fun i=>lx (PL.take i) (n+1):=⟨_,rfl⟩
 have Jd:T 3=[[.s Kj,.ol (n+1) []],[.s p.fName,.ol (n+1+1) []],[.s [],.ol (n+1+1+1) (lx (bf p.dP) (n+1+1+1+1))]]:=by
  rw[hT,uZ];exact DK _ _ _ _
 have hlp:=qU p
 rw[←uZ] at hlp
 have eO:∀i,(T i).length≤i:=fun i=>by
  rw[hT];simp only[fK]
  exact List.length_take_le i _
 have hTs:∀(i:Nat) (x:ak),PL[i]? =some x→x.dI=[]→T i++[[.s [],.ol (L i) (lx x.bF (L i+1))]]=T (i+1):=fun i x hx h0=>by
  obtain⟨hi,hg⟩:=List.getElem?_eq_some_iff.1 hx
  have:=wF hi (n+1)
  rw[hg,h0] at this
  rw[hT,hL];exact this
 have hTr:∀i,∀r∈T i,r.length=2:=fun i=>by rw[hT];exact jB
 have g1:=fun i hi=>Lp (p:=p) (i:=i) hi
 have g2:=fun i hi=>Lr (p:=p) (i:=i) hi
 have g3:=fun i hi=>Ja (p:=p) (i:=i) hi
 have g4:=fun i hi=>Ls (p:=p) (i:=i) hi
 rw[←uZ] at g1 g2 g3 g4
 have hTe:T (3+p.aO.length+p.ay.length+p.aM.length+p.aU.length)=lx (zu p).bF (n+1):=by
  rw[hT];simp only
  rw[List.take_of_length_le (by omega),uZ];rfl
 have hTm:(T (3+p.aO.length+p.ay.length+p.aM.length+p.aU.length)).length=3+p.aO.length+p.ay.length+p.aM.length+p.aU.length:=by rw[hTe,fK,zu,dF,qU]
 obtain⟨ps,hp1,hp2⟩:=Gg (gH p) (n+1+gT (eG p))
 have agw:ps.length≤24:=by
  have h1:=congrArg List.length hp2
  rw[List.length_map] at h1
  have h2:=qU p
  rw[List.length_append] at h2
  simp[eG] at h2;omega
 have hdr:(T (3+p.aO.length+p.ay.length+p.aM.length+p.aU.length)).drop 3=ps.map fun q=>[.s q.2.dI,.ol q.1 (lx q.2.bF (q.1+1))]:=by
  rw[hTe,zu,dF,jQ,←hp1];rfl
 clear hT hL
 refine oz (n) 1 (rs:=[.cell 2 32]) Tryz.checked.mixed Tryz.func13 Tryz.ntmps13 rfl rfl rfl rfl rfl ?_
 simp -implicitDefEqProofs (disch:=omega) only[go_sem]
 refine ah (vQ p (by omega)) ?_
 simp -implicitDefEqProofs (disch:=omega) only[go_sem,hv]
 refine ah (dx _ (n+1)) ?_
 simp -implicitDefEqProofs (disch:=omega) only[go_sem]
 refine ah (dx _ (n+1+1)) ?_
 simp -implicitDefEqProofs (disch:=omega) only[go_sem]
 refine ah (dZ p.dP (by omega) (n+1+1+1)) ?_
 simp -implicitDefEqProofs (disch:=omega) only[go_sem]
 (repeat(with_reducible refine And.intro ?_ ?_;focus first|omega|rfl|assumption|exact⟨_,rfl,rfl⟩|(simp;omega)|(simp;done)))
 refine mh n 3 2 (T 3) (.inl ?_) (hTr 3) ?_
 ·rw[Jd];rfl
 refine mE (L 3) ?_
 refine aV (ι:=Nat) Tryz.checked.mixed rfl [1,2,3,27,28,29] (fun i=>[.c (.ptr (0,2) 0),.c (.ptr (0,3) 0),.c (.bU (0,4) (T (3+i))),.c (.d (.sl (p.aO.map bn.enc))),.c (.d (.i .i64 p.aO.length)),.c (.d (.i .i64 i))])
  (fun i=>[.seed (L (3+i)),.seed 1,.box [.d (.s p.fName),.d (.sl (p.dP.map encS)),.d (.sl (p.aO.map bn.enc)),.d (.sl (p.ay.map aL.enc)),.d (.sl (p.aM.map aN.enc)),.d (.sl (p.aU.map aQ.enc))],.box [.d (.s []),.bD []],.fB n 2 (T (3+i))]::S)
  (fun i=>i≤p.aO.length) (fun i=>p.aO.length-i) 0 rfl rfl (Nat.zero_le _) ?_
 intro i hi
 have hl:=eO (3+i)
 simp -implicitDefEqProofs (disch:=omega) only[go_sem]
 with_reducible refine aS (fun hb=> ?_) (fun hb=> ?_)<;>have h:=hb<;>(try simp only[wf_preprocess] at h)<;>simp -implicitDefEqProofs (disch:=omega) only[go_sem,hb]<;>(repeat(with_reducible refine And.intro ?_ ?_;focus first|omega|rfl|assumption|exact⟨_,rfl,rfl⟩|(simp;omega)|(simp;done)))
 ·have hi':i<p.aO.length:=by omega
  have hm:=List.getElem_mem hi'
  have hcz:=bI (List.mem_map_of_mem (f:=bn.enc) hm)
  have uH:p.aO[i].sz≤aI (p.aO.map bn.enc):=hcz
  have hs:=hTs _ _ (g1 i hi') rfl
  (repeat(with_reducible refine And.intro ?_ ?_;focus first|omega|rfl|assumption|exact⟨_,rfl,rfl⟩|(simp;omega)|(simp;done)))
  refine ah (Ct p.aO[i] (L (3+i)) (v1 _ hm) (by omega)) ?_
  simp -implicitDefEqProofs (disch:=omega) only[go_sem]
  (repeat(with_reducible refine And.intro ?_ ?_;focus first|omega|rfl|assumption|exact⟨_,rfl,rfl⟩|(simp;omega)|(simp;done)))
  rw[hs]
  refine jD (L (3+(i+1))) 4 (by decide) (i+1) (by omega) rfl rfl ?_ rfl (by omega)
  simp[gV,gy,V.refs,C.refs,jw]
 have hi':i=p.aO.length:=by omega
 subst hi'
 clear hi hl h
 refine aV (ι:=Nat) Tryz.checked.mixed rfl [1,2,3,40,41,42] (fun i=>[.c (.ptr (0,2) 0),.c (.ptr (0,3) 0),.c (.bU (0,4) (T (3+p.aO.length+i))),.c (.d (.sl (p.ay.map aL.enc))),.c (.d (.i .i64 p.ay.length)),.c (.d (.i .i64 i))])
  (fun i=>[.seed (L (3+p.aO.length+i)),.seed 1,.box [.d (.s p.fName),.d (.sl (p.dP.map encS)),.d (.sl (p.aO.map bn.enc)),.d (.sl (p.ay.map aL.enc)),.d (.sl (p.aM.map aN.enc)),.d (.sl (p.aU.map aQ.enc))],.box [.d (.s []),.bD []],.fB n 2 (T (3+p.aO.length+i))]::S)
  (fun i=>i≤p.ay.length) (fun i=>p.ay.length-i) 0 rfl rfl (Nat.zero_le _) ?_
 intro i hi
 have hl:=eO (3+p.aO.length+i)
 simp -implicitDefEqProofs (disch:=omega) only[go_sem]
 with_reducible refine aS (fun hb=> ?_) (fun hb=> ?_)<;>have h:=hb<;>(try simp only[wf_preprocess] at h)<;>simp -implicitDefEqProofs (disch:=omega) only[go_sem,hb]<;>(repeat(with_reducible refine And.intro ?_ ?_;focus first|omega|rfl|assumption|exact⟨_,rfl,rfl⟩|(simp;omega)|(simp;done)))
 ·have hi':i<p.ay.length:=by omega
  have hm:=List.getElem_mem hi'
  have hcz:=bI (List.mem_map_of_mem (f:=aL.enc) hm)
  have uH:p.ay[i].sz≤aI (p.ay.map aL.enc):=hcz
  have hs:=hTs _ _ (g2 i hi') rfl
  (repeat(with_reducible refine And.intro ?_ ?_;focus first|omega|rfl|assumption|exact⟨_,rfl,rfl⟩|(simp;omega)|(simp;done)))
  refine ah (zP p.ay[i] (L (3+p.aO.length+i)) (v2 _ hm) (by omega)) ?_
  simp -implicitDefEqProofs (disch:=omega) only[go_sem]
  (repeat(with_reducible refine And.intro ?_ ?_;focus first|omega|rfl|assumption|exact⟨_,rfl,rfl⟩|(simp;omega)|(simp;done)))
  rw[hs]
  refine jD (L (3+p.aO.length+(i+1))) 4 (by decide) (i+1) (by omega) rfl rfl ?_ rfl (by omega)
  simp[gV,gy,V.refs,C.refs,jw]
 have hi':i=p.ay.length:=by omega
 subst hi'
 clear hi hl h
 refine aV (ι:=Nat) Tryz.checked.mixed rfl [1,2,3,53,54,55] (fun i=>[.c (.ptr (0,2) 0),.c (.ptr (0,3) 0),.c (.bU (0,4) (T (3+p.aO.length+p.ay.length+i))),.c (.d (.sl (p.aM.map aN.enc))),.c (.d (.i .i64 p.aM.length)),.c (.d (.i .i64 i))])
  (fun i=>[.seed (L (3+p.aO.length+p.ay.length+i)),.seed 1,.box [.d (.s p.fName),.d (.sl (p.dP.map encS)),.d (.sl (p.aO.map bn.enc)),.d (.sl (p.ay.map aL.enc)),.d (.sl (p.aM.map aN.enc)),.d (.sl (p.aU.map aQ.enc))],.box [.d (.s []),.bD []],.fB n 2 (T (3+p.aO.length+p.ay.length+i))]::S)
  (fun i=>i≤p.aM.length) (fun i=>p.aM.length-i) 0 rfl rfl (Nat.zero_le _) ?_
 intro i hi
 have hl:=eO (3+p.aO.length+p.ay.length+i)
 simp -implicitDefEqProofs (disch:=omega) only[go_sem]
 with_reducible refine aS (fun hb=> ?_) (fun hb=> ?_)<;>have h:=hb<;>(try simp only[wf_preprocess] at h)<;>simp -implicitDefEqProofs (disch:=omega) only[go_sem,hb]<;>(repeat(with_reducible refine And.intro ?_ ?_;focus first|omega|rfl|assumption|exact⟨_,rfl,rfl⟩|(simp;omega)|(simp;done)))
 ·have hi':i<p.aM.length:=by omega
  have hm:=List.getElem_mem hi'
  have hcz:=bI (List.mem_map_of_mem (f:=aN.enc) hm)
  have uH:p.aM[i].sz≤aI (p.aM.map aN.enc):=hcz
  have hs:=hTs _ _ (g3 i hi') rfl
  (repeat(with_reducible refine And.intro ?_ ?_;focus first|omega|rfl|assumption|exact⟨_,rfl,rfl⟩|(simp;omega)|(simp;done)))
  refine ah (DW p.aM[i] (L (3+p.aO.length+p.ay.length+i)) (v3 _ hm) (by omega)) ?_
  simp -implicitDefEqProofs (disch:=omega) only[go_sem]
  (repeat(with_reducible refine And.intro ?_ ?_;focus first|omega|rfl|assumption|exact⟨_,rfl,rfl⟩|(simp;omega)|(simp;done)))
  rw[hs]
  refine jD (L (3+p.aO.length+p.ay.length+(i+1))) 4 (by decide) (i+1) (by omega) rfl rfl ?_ rfl (by omega)
  simp[gV,gy,V.refs,C.refs,jw]
 have hi':i=p.aM.length:=by omega
 subst hi'
 clear hi hl h
 refine aV (ι:=Nat) Tryz.checked.mixed rfl [2,3,66,67,68] (fun i=>[.c (.ptr (0,3) 0),.c (.bU (0,4) (T (3+p.aO.length+p.ay.length+p.aM.length+i))),.c (.d (.sl (p.aU.map aQ.enc))),.c (.d (.i .i64 p.aU.length)),.c (.d (.i .i64 i))])
  (fun i=>[.seed (L (3+p.aO.length+p.ay.length+p.aM.length+i)),.seed 1,.box [.d (.s p.fName),.d (.sl (p.dP.map encS)),.d (.sl (p.aO.map bn.enc)),.d (.sl (p.ay.map aL.enc)),.d (.sl (p.aM.map aN.enc)),.d (.sl (p.aU.map aQ.enc))],.box [.d (.s []),.bD []],.fB n 2 (T (3+p.aO.length+p.ay.length+p.aM.length+i))]::S)
  (fun i=>i≤p.aU.length) (fun i=>p.aU.length-i) 0 rfl rfl (Nat.zero_le _) ?_
 intro i hi
 have hl:=eO (3+p.aO.length+p.ay.length+p.aM.length+i)
 simp -implicitDefEqProofs (disch:=omega) only[go_sem]
 with_reducible refine aS (fun hb=> ?_) (fun hb=> ?_)<;>have h:=hb<;>(try simp only[wf_preprocess] at h)<;>simp -implicitDefEqProofs (disch:=omega) only[go_sem,hb]<;>(repeat(with_reducible refine And.intro ?_ ?_;focus first|omega|rfl|assumption|exact⟨_,rfl,rfl⟩|(simp;omega)|(simp;done)))
 ·have hi':i<p.aU.length:=by omega
  have hm:=List.getElem_mem hi'
  have hcz:=bI (List.mem_map_of_mem (f:=aQ.enc) hm)
  have uH:p.aU[i].sz≤aI (p.aU.map aQ.enc):=hcz
  have hs:=hTs _ _ (g4 i hi') rfl
  (repeat(with_reducible refine And.intro ?_ ?_;focus first|omega|rfl|assumption|exact⟨_,rfl,rfl⟩|(simp;omega)|(simp;done)))
  refine ah (Cr p.aU[i] (L (3+p.aO.length+p.ay.length+p.aM.length+i)) (v4 _ hm) (by omega)) ?_
  simp -implicitDefEqProofs (disch:=omega) only[go_sem]
  (repeat(with_reducible refine And.intro ?_ ?_;focus first|omega|rfl|assumption|exact⟨_,rfl,rfl⟩|(simp;omega)|(simp;done)))
  rw[hs]
  refine jD (L (3+p.aO.length+p.ay.length+p.aM.length+(i+1))) 4 (by decide) (i+1) (by omega) rfl rfl ?_ rfl (by omega)
  simp[gV,gy,V.refs,C.refs,jw]
 have hi':i=p.aU.length:=by omega
 subst hi'
 clear hi hl h
 have Zm:=hTr (3+p.aO.length+p.ay.length+p.aM.length+p.aU.length)
 refine⟨⟨by omega,by omega,Zm⟩,?_⟩
 rw[List.take_length,hdr]
 simp only[List.length_map]
 refine yX (Ac 4 n n) ?_
 refine aV (ι:=Nat) Tryz.checked.mixed rfl [2,3,79,80,81] (fun i=>[.c (.ptr (0,3) 0),.c (.bU (0,4) (T (3+p.aO.length+p.ay.length+p.aM.length+p.aU.length))),.c (.d (.sl (ps.map fun q=>[.s q.2.dI,.ol q.1 (lx q.2.bF (q.1+1))]))),.c (.d (.i .i64 ps.length)),.c (.d (.i .i64 i))])
  (fun i=>[.seed (L (3+p.aO.length+p.ay.length+p.aM.length+p.aU.length)),.seed 1,.box [.d (.s p.fName),.d (.sl (p.dP.map encS)),.d (.sl (p.aO.map bn.enc)),.d (.sl (p.ay.map aL.enc)),.d (.sl (p.aM.map aN.enc)),.d (.sl (p.aU.map aQ.enc))],.box [.d (.s []),.bD []],.fB n 2 (T (3+p.aO.length+p.ay.length+p.aM.length+p.aU.length))]::S)
  (fun i=>i≤ps.length∧∀j (hj:j<ps.length),j<i→jI ps[j].2=true) (fun i=>ps.length-i) 0 rfl rfl ⟨Nat.zero_le _,fun j hj h=>by omega⟩ ?_
 rintro i ⟨hi,hj⟩
 simp -implicitDefEqProofs (disch:=omega) only[go_sem]
 with_reducible refine aS (fun hb=> ?_) (fun hb=> ?_)<;>have h:=hb<;>(try simp only[wf_preprocess] at h)<;>simp -implicitDefEqProofs (disch:=omega) only[go_sem,hb]<;>(repeat(with_reducible refine And.intro ?_ ?_;focus first|omega|rfl|assumption|exact⟨_,rfl,rfl⟩|(simp;omega)|(simp;done)))
 ·have hi':i<ps.length:=by omega
  have hm:ps[i].2∈gH p:=by rw[←hp2];exact List.mem_map_of_mem (List.getElem_mem hi')
  have hx:=Ej hm
  (repeat(with_reducible refine And.intro ?_ ?_;focus first|omega|rfl|assumption|exact⟨_,rfl,rfl⟩|(simp;omega)|(simp;done)))
  refine q9 (uo ps[i].2 (by omega)) (.cons (Es ps[i].2 ps[i].1) .nil) ?_
  have LB:=hall _ hm
  simp -implicitDefEqProofs (disch:=omega) only[go_sem,LB]
  exact dz 5 (by decide) (i+1) (by omega) rfl rfl rfl rfl ⟨by omega,fun j hj' hlt=>by
   by_cases e:j=i
   ·subst e;exact LB
   ·exact hj j hj' (by omega)⟩
 ·rw[hTe]
  refine ah (jK _) ?_
  simp -implicitDefEqProofs (disch:=omega) only[go_sem]
  refine ah (TW (zu p) n (by omega)) ?_
  simp -implicitDefEqProofs (disch:=omega) only[go_sem]
set_option maxHeartbeats 4000000 in
theorem Zn(p:bg)(n:Nat)(hv:validPkg p=true)(hsz:p.sz≤1048576)(hall:¬∀x∈gH p,jI x=true):aG Tryz.prog 13 [p.v] (.agg [.d (.s []),.bD []]):=fun S=>by
 have hdz:=bg.sum p
 rw[dM] at hdz
 obtain⟨v1,v2,v3,v4,v5⟩:=oJ hv
 obtain⟨hz,hzp⟩:=Jc hv
 obtain⟨PL,uZ⟩:∃PL:List ak,PL=eG p++gH p:=⟨_,rfl⟩
 obtain⟨L,hL⟩:∃L:Nat→Nat,L=fun i=>n+1+gT (PL.take i):=⟨_,rfl⟩
 obtain⟨T,hT⟩:∃T:Nat→List (List D),T=fun i=>lx (PL.take i) (n+1):=⟨_,rfl⟩
 have Jd:T 3=[[.s Kj,.ol (n+1) []],[.s p.fName,.ol (n+1+1) []],[.s [],.ol (n+1+1+1) (lx (bf p.dP) (n+1+1+1+1))]]:=by
  rw[hT,uZ];exact DK _ _ _ _
 have hlp:=qU p
 rw[←uZ] at hlp
 have eO:∀i,(T i).length≤i:=fun i=>by
  rw[hT];simp only[fK]
  exact List.length_take_le i _
 have hTs:∀(i:Nat) (x:ak),PL[i]? =some x→x.dI=[]→T i++[[.s [],.ol (L i) (lx x.bF (L i+1))]]=T (i+1):=fun i x hx h0=>by
  obtain⟨hi,hg⟩:=List.getElem?_eq_some_iff.1 hx
  have:=wF hi (n+1)
  rw[hg,h0] at this
  rw[hT,hL];exact this
 have hTr:∀i,∀r∈T i,r.length=2:=fun i=>by rw[hT];exact jB
 have g1:=fun i hi=>Lp (p:=p) (i:=i) hi
 have g2:=fun i hi=>Lr (p:=p) (i:=i) hi
 have g3:=fun i hi=>Ja (p:=p) (i:=i) hi
 have g4:=fun i hi=>Ls (p:=p) (i:=i) hi
 rw[←uZ] at g1 g2 g3 g4
 have hTe:T (3+p.aO.length+p.ay.length+p.aM.length+p.aU.length)=lx (zu p).bF (n+1):=by
  rw[hT];simp only
  rw[List.take_of_length_le (by omega),uZ];rfl
 have hTm:(T (3+p.aO.length+p.ay.length+p.aM.length+p.aU.length)).length=3+p.aO.length+p.ay.length+p.aM.length+p.aU.length:=by rw[hTe,fK,zu,dF,qU]
 obtain⟨ps,hp1,hp2⟩:=Gg (gH p) (n+1+gT (eG p))
 have agw:ps.length≤24:=by
  have h1:=congrArg List.length hp2
  rw[List.length_map] at h1
  have h2:=qU p
  rw[List.length_append] at h2
  simp[eG] at h2;omega
 have hdr:(T (3+p.aO.length+p.ay.length+p.aM.length+p.aU.length)).drop 3=ps.map fun q=>[.s q.2.dI,.ol q.1 (lx q.2.bF (q.1+1))]:=by
  rw[hTe,zu,dF,jQ,←hp1];rfl
 clear hT hL
 refine oz (n) 1 (rs:=[.cell 2 32]) Tryz.checked.mixed Tryz.func13 Tryz.ntmps13 rfl rfl rfl rfl rfl ?_
 simp -implicitDefEqProofs (disch:=omega) only[go_sem]
 refine ah (vQ p (by omega)) ?_
 simp -implicitDefEqProofs (disch:=omega) only[go_sem,hv]
 refine ah (dx _ (n+1)) ?_
 simp -implicitDefEqProofs (disch:=omega) only[go_sem]
 refine ah (dx _ (n+1+1)) ?_
 simp -implicitDefEqProofs (disch:=omega) only[go_sem]
 refine ah (dZ p.dP (by omega) (n+1+1+1)) ?_
 simp -implicitDefEqProofs (disch:=omega) only[go_sem]
 (repeat(with_reducible refine And.intro ?_ ?_;focus first|omega|rfl|assumption|exact⟨_,rfl,rfl⟩|(simp;omega)|(simp;done)))
 refine mh n 3 2 (T 3) (.inl ?_) (hTr 3) ?_
 ·rw[Jd];rfl
 refine mE (L 3) ?_
 refine aV (ι:=Nat) Tryz.checked.mixed rfl [1,2,3,27,28,29] (fun i=>[.c (.ptr (0,2) 0),.c (.ptr (0,3) 0),.c (.bU (0,4) (T (3+i))),.c (.d (.sl (p.aO.map bn.enc))),.c (.d (.i .i64 p.aO.length)),.c (.d (.i .i64 i))])
  (fun i=>[.seed (L (3+i)),.seed 1,.box [.d (.s p.fName),.d (.sl (p.dP.map encS)),.d (.sl (p.aO.map bn.enc)),.d (.sl (p.ay.map aL.enc)),.d (.sl (p.aM.map aN.enc)),.d (.sl (p.aU.map aQ.enc))],.box [.d (.s []),.bD []],.fB n 2 (T (3+i))]::S)
  (fun i=>i≤p.aO.length) (fun i=>p.aO.length-i) 0 rfl rfl (Nat.zero_le _) ?_
 intro i hi
 have hl:=eO (3+i)
 simp -implicitDefEqProofs (disch:=omega) only[go_sem]
 with_reducible refine aS (fun hb=> ?_) (fun hb=> ?_)<;>have h:=hb<;>(try simp only[wf_preprocess] at h)<;>simp -implicitDefEqProofs (disch:=omega) only[go_sem,hb]<;>(repeat(with_reducible refine And.intro ?_ ?_;focus first|omega|rfl|assumption|exact⟨_,rfl,rfl⟩|(simp;omega)|(simp;done)))
 ·have hi':i<p.aO.length:=by omega
  have hm:=List.getElem_mem hi'
  have hcz:=bI (List.mem_map_of_mem (f:=bn.enc) hm)
  have uH:p.aO[i].sz≤aI (p.aO.map bn.enc):=hcz
  have hs:=hTs _ _ (g1 i hi') rfl
  (repeat(with_reducible refine And.intro ?_ ?_;focus first|omega|rfl|assumption|exact⟨_,rfl,rfl⟩|(simp;omega)|(simp;done)))
  refine ah (Ct p.aO[i] (L (3+i)) (v1 _ hm) (by omega)) ?_
  simp -implicitDefEqProofs (disch:=omega) only[go_sem]
  (repeat(with_reducible refine And.intro ?_ ?_;focus first|omega|rfl|assumption|exact⟨_,rfl,rfl⟩|(simp;omega)|(simp;done)))
  rw[hs]
  refine jD (L (3+(i+1))) 4 (by decide) (i+1) (by omega) rfl rfl ?_ rfl (by omega)
  simp[gV,gy,V.refs,C.refs,jw]
 have hi':i=p.aO.length:=by omega
 subst hi'
 clear hi hl h
 refine aV (ι:=Nat) Tryz.checked.mixed rfl [1,2,3,40,41,42] (fun i=>[.c (.ptr (0,2) 0),.c (.ptr (0,3) 0),.c (.bU (0,4) (T (3+p.aO.length+i))),.c (.d (.sl (p.ay.map aL.enc))),.c (.d (.i .i64 p.ay.length)),.c (.d (.i .i64 i))])
  (fun i=>[.seed (L (3+p.aO.length+i)),.seed 1,.box [.d (.s p.fName),.d (.sl (p.dP.map encS)),.d (.sl (p.aO.map bn.enc)),.d (.sl (p.ay.map aL.enc)),.d (.sl (p.aM.map aN.enc)),.d (.sl (p.aU.map aQ.enc))],.box [.d (.s []),.bD []],.fB n 2 (T (3+p.aO.length+i))]::S)
  (fun i=>i≤p.ay.length) (fun i=>p.ay.length-i) 0 rfl rfl (Nat.zero_le _) ?_
 intro i hi
 have hl:=eO (3+p.aO.length+i)
 simp -implicitDefEqProofs (disch:=omega) only[go_sem]
 with_reducible refine aS (fun hb=> ?_) (fun hb=> ?_)<;>have h:=hb<;>(try simp only[wf_preprocess] at h)<;>simp -implicitDefEqProofs (disch:=omega) only[go_sem,hb]<;>(repeat(with_reducible refine And.intro ?_ ?_;focus first|omega|rfl|assumption|exact⟨_,rfl,rfl⟩|(simp;omega)|(simp;done)))
 ·have hi':i<p.ay.length:=by omega
  have hm:=List.getElem_mem hi'
  have hcz:=bI (List.mem_map_of_mem (f:=aL.enc) hm)
  have uH:p.ay[i].sz≤aI (p.ay.map aL.enc):=hcz
  have hs:=hTs _ _ (g2 i hi') rfl
  (repeat(with_reducible refine And.intro ?_ ?_;focus first|omega|rfl|assumption|exact⟨_,rfl,rfl⟩|(simp;omega)|(simp;done)))
  refine ah (zP p.ay[i] (L (3+p.aO.length+i)) (v2 _ hm) (by omega)) ?_
  simp -implicitDefEqProofs (disch:=omega) only[go_sem]
  (repeat(with_reducible refine And.intro ?_ ?_;focus first|omega|rfl|assumption|exact⟨_,rfl,rfl⟩|(simp;omega)|(simp;done)))
  rw[hs]
  refine jD (L (3+p.aO.length+(i+1))) 4 (by decide) (i+1) (by omega) rfl rfl ?_ rfl (by omega)
  simp[gV,gy,V.refs,C.refs,jw]
 have hi':i=p.ay.length:=by omega
 subst hi'
 clear hi hl h
 refine aV (ι:=Nat) Tryz.checked.mixed rfl [1,2,3,53,54,55] (fun i=>[.c (.ptr (0,2) 0),.c (.ptr (0,3) 0),.c (.bU (0,4) (T (3+p.aO.length+p.ay.length+i))),.c (.d (.sl (p.aM.map aN.enc))),.c (.d (.i .i64 p.aM.length)),.c (.d (.i .i64 i))])
  (fun i=>[.seed (L (3+p.aO.length+p.ay.length+i)),.seed 1,.box [.d (.s p.fName),.d (.sl (p.dP.map encS)),.d (.sl (p.aO.map bn.enc)),.d (.sl (p.ay.map aL.enc)),.d (.sl (p.aM.map aN.enc)),.d (.sl (p.aU.map aQ.enc))],.box [.d (.s []),.bD []],.fB n 2 (T (3+p.aO.length+p.ay.length+i))]::S)
  (fun i=>i≤p.aM.length) (fun i=>p.aM.length-i) 0 rfl rfl (Nat.zero_le _) ?_
 intro i hi
 have hl:=eO (3+p.aO.length+p.ay.length+i)
 simp -implicitDefEqProofs (disch:=omega) only[go_sem]
 with_reducible refine aS (fun hb=> ?_) (fun hb=> ?_)<;>have h:=hb<;>(try simp only[wf_preprocess] at h)<;>simp -implicitDefEqProofs (disch:=omega) only[go_sem,hb]<;>(repeat(with_reducible refine And.intro ?_ ?_;focus first|omega|rfl|assumption|exact⟨_,rfl,rfl⟩|(simp;omega)|(simp;done)))
 ·have hi':i<p.aM.length:=by omega
  have hm:=List.getElem_mem hi'
  have hcz:=bI (List.mem_map_of_mem (f:=aN.enc) hm)
  have uH:p.aM[i].sz≤aI (p.aM.map aN.enc):=hcz
  have hs:=hTs _ _ (g3 i hi') rfl
  (repeat(with_reducible refine And.intro ?_ ?_;focus first|omega|rfl|assumption|exact⟨_,rfl,rfl⟩|(simp;omega)|(simp;done)))
  refine ah (DW p.aM[i] (L (3+p.aO.length+p.ay.length+i)) (v3 _ hm) (by omega)) ?_
  simp -implicitDefEqProofs (disch:=omega) only[go_sem]
  (repeat(with_reducible refine And.intro ?_ ?_;focus first|omega|rfl|assumption|exact⟨_,rfl,rfl⟩|(simp;omega)|(simp;done)))
  rw[hs]
  refine jD (L (3+p.aO.length+p.ay.length+(i+1))) 4 (by decide) (i+1) (by omega) rfl rfl ?_ rfl (by omega)
  simp[gV,gy,V.refs,C.refs,jw]
 have hi':i=p.aM.length:=by omega
 subst hi'
 clear hi hl h
 refine aV (ι:=Nat) Tryz.checked.mixed rfl [2,3,66,67,68] (fun i=>[.c (.ptr (0,3) 0),.c (.bU (0,4) (T (3+p.aO.length+p.ay.length+p.aM.length+i))),.c (.d (.sl (p.aU.map aQ.enc))),.c (.d (.i .i64 p.aU.length)),.c (.d (.i .i64 i))])
  (fun i=>[.seed (L (3+p.aO.length+p.ay.length+p.aM.length+i)),.seed 1,.box [.d (.s p.fName),.d (.sl (p.dP.map encS)),.d (.sl (p.aO.map bn.enc)),.d (.sl (p.ay.map aL.enc)),.d (.sl (p.aM.map aN.enc)),.d (.sl (p.aU.map aQ.enc))],.box [.d (.s []),.bD []],.fB n 2 (T (3+p.aO.length+p.ay.length+p.aM.length+i))]::S)
  (fun i=>i≤p.aU.length) (fun i=>p.aU.length-i) 0 rfl rfl (Nat.zero_le _) ?_
 intro i hi
 have hl:=eO (3+p.aO.length+p.ay.length+p.aM.length+i)
 simp -implicitDefEqProofs (disch:=omega) only[go_sem]
 with_reducible refine aS (fun hb=> ?_) (fun hb=> ?_)<;>have h:=hb<;>(try simp only[wf_preprocess] at h)<;>simp -implicitDefEqProofs (disch:=omega) only[go_sem,hb]<;>(repeat(with_reducible refine And.intro ?_ ?_;focus first|omega|rfl|assumption|exact⟨_,rfl,rfl⟩|(simp;omega)|(simp;done)))
 ·have hi':i<p.aU.length:=by omega
  have hm:=List.getElem_mem hi'
  have hcz:=bI (List.mem_map_of_mem (f:=aQ.enc) hm)
  have uH:p.aU[i].sz≤aI (p.aU.map aQ.enc):=hcz
  have hs:=hTs _ _ (g4 i hi') rfl
  (repeat(with_reducible refine And.intro ?_ ?_;focus first|omega|rfl|assumption|exact⟨_,rfl,rfl⟩|(simp;omega)|(simp;done)))
  refine ah (Cr p.aU[i] (L (3+p.aO.length+p.ay.length+p.aM.length+i)) (v4 _ hm) (by omega)) ?_
  simp -implicitDefEqProofs (disch:=omega) only[go_sem]
  (repeat(with_reducible refine And.intro ?_ ?_;focus first|omega|rfl|assumption|exact⟨_,rfl,rfl⟩|(simp;omega)|(simp;done)))
  rw[hs]
  refine jD (L (3+p.aO.length+p.ay.length+p.aM.length+(i+1))) 4 (by decide) (i+1) (by omega) rfl rfl ?_ rfl (by omega)
  simp[gV,gy,V.refs,C.refs,jw]
 have hi':i=p.aU.length:=by omega
 subst hi'
 clear hi hl h
 have Zm:=hTr (3+p.aO.length+p.ay.length+p.aM.length+p.aU.length)
 refine⟨⟨by omega,by omega,Zm⟩,?_⟩
 rw[List.take_length,hdr]
 simp only[List.length_map]
 refine yX (Ac 4 n n) ?_
 refine aV (ι:=Nat) Tryz.checked.mixed rfl [2,3,79,80,81] (fun i=>[.c (.ptr (0,3) 0),.c (.bU (0,4) (T (3+p.aO.length+p.ay.length+p.aM.length+p.aU.length))),.c (.d (.sl (ps.map fun q=>[.s q.2.dI,.ol q.1 (lx q.2.bF (q.1+1))]))),.c (.d (.i .i64 ps.length)),.c (.d (.i .i64 i))])
  (fun i=>[.seed (L (3+p.aO.length+p.ay.length+p.aM.length+p.aU.length)),.seed 1,.box [.d (.s p.fName),.d (.sl (p.dP.map encS)),.d (.sl (p.aO.map bn.enc)),.d (.sl (p.ay.map aL.enc)),.d (.sl (p.aM.map aN.enc)),.d (.sl (p.aU.map aQ.enc))],.box [.d (.s []),.bD []],.fB n 2 (T (3+p.aO.length+p.ay.length+p.aM.length+p.aU.length))]::S)
  (fun i=>i≤ps.length∧∀j (hj:j<ps.length),j<i→jI ps[j].2=true) (fun i=>ps.length-i) 0 rfl rfl ⟨Nat.zero_le _,fun j hj h=>by omega⟩ ?_
 rintro i ⟨hi,hj⟩
 simp -implicitDefEqProofs (disch:=omega) only[go_sem]
 with_reducible refine aS (fun hb=> ?_) (fun hb=> ?_)<;>have h:=hb<;>(try simp only[wf_preprocess] at h)<;>simp -implicitDefEqProofs (disch:=omega) only[go_sem,hb]<;>(repeat(with_reducible refine And.intro ?_ ?_;focus first|omega|rfl|assumption|exact⟨_,rfl,rfl⟩|(simp;omega)|(simp;done)))
 ·have hi':i<ps.length:=by omega
  have hm:ps[i].2∈gH p:=by rw[←hp2];exact List.mem_map_of_mem (List.getElem_mem hi')
  have hx:=Ej hm
  (repeat(with_reducible refine And.intro ?_ ?_;focus first|omega|rfl|assumption|exact⟨_,rfl,rfl⟩|(simp;omega)|(simp;done)))
  refine q9 (uo ps[i].2 (by omega)) (.cons (Es ps[i].2 ps[i].1) .nil) ?_
  cases LB:jI ps[i].2 with
  |false=>simp -implicitDefEqProofs (disch:=omega) only[go_sem,LB]
  |true=>
   simp -implicitDefEqProofs (disch:=omega) only[go_sem,LB]
   exact dz 5 (by decide) (i+1) (by omega) rfl rfl rfl rfl ⟨by omega,fun j hj' hlt=>by
    by_cases e:j=i
    ·subst e;exact LB
    ·exact hj j hj' (by omega)⟩
 ·exact absurd (fun x hx=>by
   rw[←hp2] at hx
   obtain⟨q,hq,rfl⟩:=List.mem_map.1 hx
   obtain⟨j,hj1,rfl⟩:=List.getElem_of_mem hq
   exact hj j hj1 (by omega)) hall
theorem QY(x:bg)(n:Nat)(hsz:x.sz≤1048576):aG Tryz.prog 13 [x.v] (.agg [.d (.s (DX x).dI),.d (.ol n (lx (DX x).bF (n+1)))]):=by
 unfold DX
 cases hv:validPkg x with
 |false=>
  rw[Bool.false_and,sH]
  refine aG.less (fun S=> ?_) (Er [] n)
  refine aA (rs:=[.cell 2 32]) Tryz.checked.mixed Tryz.func13 Tryz.ntmps13 rfl rfl rfl rfl rfl ?_
  first|refine W1 ?_|exact Z1
  refine ah (vQ x (by omega)) ?_
  simp -implicitDefEqProofs (disch:=omega) only[go_sem,hv]
 |true=>
  rw[Bool.true_and]
  cases ha:(gH x).all jI with
  |true=>exact Zl x n hv hsz (List.all_eq_true.1 ha)
  |false=>
   rw[sH]
   refine aG.less (Zn x n hv hsz fun h=> ?_) (Er [] n)
   rw[List.all_eq_true.2 h] at ha
   cases ha
set_option maxHeartbeats 4000000 in
theorem Zo(p:bg)(hv:validPkg p=true)(hsz:p.sz≤1048576)(hall:∀x∈gH p,jI x=true):aG Tryz.prog 11 [p.v] ((rV (zu p)).v):=fun S=>by
 have hdz:=bg.sum p
 rw[dM] at hdz
 obtain⟨v1,v2,v3,v4,v5⟩:=oJ hv
 obtain⟨hz,hzp⟩:=Jc hv
 obtain⟨PL,uZ⟩:∃PL:List ak,PL=eG p++mR p:=⟨_,rfl⟩
 obtain⟨T,hT⟩:∃T:Nat→List (List D),T=fun i=>(PL.take i).map ak.enc:=⟨_,rfl⟩
 have Jd:T 3=[[.s Kj,.sl []],[.s p.fName,.sl []],[.s [],.sl ((bf p.dP).map ak.enc)]]:=by
  rw[hT,uZ];simp only[eG,List.cons_append,List.nil_append,List.take_succ_cons,List.take_zero,List.map_cons,List.map_nil,eT,iK]
 have hlp:=I9 p
 rw[←uZ] at hlp
 have eO:∀i,(T i).length≤i:=fun i=>by
  rw[hT];simp only[List.length_map]
  exact List.length_take_le i _
 have hTs:∀(i:Nat) (x:ak),PL[i]? =some x→T i++[[.s x.dI,.sl (x.bF.map ak.enc)]]=T (i+1):=fun i x hx=>by
  obtain⟨hi,hg⟩:=List.getElem?_eq_some_iff.1 hx
  have:=iB (base:=[]) (l:=PL) hi
  rw[hg] at this
  rw[hT];exact this
 have hTr:∀i,∀r∈T i,r.length=2:=fun i=>by rw[hT];exact jE
 have g1:=fun i hi=>Lu (p:=p) (i:=i) hi
 have g2:=fun i hi=>Lv (p:=p) (i:=i) hi
 have g3:=fun i hi=>Jb (p:=p) (i:=i) hi
 have g4:=fun i hi=>Lx (p:=p) (i:=i) hi
 rw[←uZ] at g1 g2 g3 g4
 have hTe:T (3+p.aO.length+p.ay.length+p.aM.length+p.aU.length)=PL.map ak.enc:=by
  rw[hT];simp only
  rw[List.take_of_length_le (by omega)]
 clear hT
 refine aA (rs:=[.cell 2 32]) Tryz.checked.mixed Tryz.func11 Tryz.ntmps11 rfl rfl rfl rfl rfl ?_
 simp -implicitDefEqProofs (disch:=omega) only[go_sem]
 refine ah (vR p (by omega)) ?_
 simp -implicitDefEqProofs (disch:=omega) only[go_sem,hv]
 refine ah (bW _) ?_
 simp -implicitDefEqProofs (disch:=omega) only[go_sem]
 refine ah (bW _) ?_
 simp -implicitDefEqProofs (disch:=omega) only[go_sem]
 refine ah (dU p.dP (by omega)) ?_
 simp -implicitDefEqProofs (disch:=omega) only[go_sem]
 have hE:=fun bT Ω=>iZ (T 3) (hTr 3) (by have:=eO 3;omega) bT Ω
 simp only[Jd] at hE
 refine lT [false] rfl (hE _ _) ?_
 simp -implicitDefEqProofs (disch:=omega) only[go_sem]
 refine aV (ι:=Nat) Tryz.checked.mixed rfl [1,2,3,4] (fun i=>[.c (.ptr (0,0) 0),.c (.ptr (0,1) 0),.c (.ptr (0,4) 0),.c (.d (.i .i64 i))])
  (fun i=>[.box [.d (.s p.fName),.d (.sl (p.dP.map encS)),.d (.sl (p.aO.map bn.enc)),.d (.sl (p.ay.map aL.enc)),.d (.sl (p.aM.map aN.enc)),.d (.sl (p.aU.map aQ.enc))],.box [.d (.s []),.bD []],.box [.d (.s []),.bU (0,3) (T 3)],.tok 2 (T (3+i)),.box [.d (.s []),.bU (0,3) (T (3+i))]]::S)
  (fun i=>i≤p.aO.length) (fun i=>p.aO.length-i) 0 rfl (by simp only[Jd]<;>(try rfl)) (Nat.zero_le _) ?_
 intro i hi
 have hl:=eO (3+i)
 simp -implicitDefEqProofs (disch:=omega) only[go_sem]
 with_reducible refine aS (fun hb=> ?_) (fun hb=> ?_)<;>have h:=hb<;>(try simp only[wf_preprocess] at h)<;>simp -implicitDefEqProofs (disch:=omega) only[go_sem,hb]<;>(repeat(with_reducible refine And.intro ?_ ?_;focus first|omega|rfl|assumption|exact⟨_,rfl,rfl⟩|(simp;omega)|(simp;done)))
 ·have hi':i<p.aO.length:=by omega
  have hm:=List.getElem_mem hi'
  have hcz:=bI (List.mem_map_of_mem (f:=bn.enc) hm)
  have uH:p.aO[i].sz≤aI (p.aO.map bn.enc):=hcz
  have hs:=hTs _ _ (g1 i hi')
  have hc:aG Tryz.prog 56 [p.aO[i].v] (.agg [.d (.s (uq p.aO[i]).dI),.d (.sl ((uq p.aO[i]).bF.map ak.enc))]):=Lj p.aO[i] (by omega)
  (repeat(with_reducible refine And.intro ?_ ?_;focus first|omega|rfl|assumption|exact⟨_,rfl,rfl⟩|(simp;omega)|(simp;done)))
  refine ah hc ?_
  simp -implicitDefEqProofs (disch:=omega) only[go_sem]
  (repeat(with_reducible refine And.intro ?_ ?_;focus first|omega|rfl|assumption|exact⟨_,rfl,rfl⟩|(simp;omega)|(simp;done)))
  rw[hs]
  exact dz 5 (by decide) (i+1) (by omega) rfl rfl rfl rfl (by omega)
 have hi':i=p.aO.length:=by omega
 subst hi'
 clear hi hl h
 refine aV (ι:=Nat) Tryz.checked.mixed rfl [1,2,3,5] (fun i=>[.c (.ptr (0,0) 0),.c (.ptr (0,1) 0),.c (.ptr (0,4) 0),.c (.d (.i .i64 i))])
  (fun i=>[.box [.d (.s p.fName),.d (.sl (p.dP.map encS)),.d (.sl (p.aO.map bn.enc)),.d (.sl (p.ay.map aL.enc)),.d (.sl (p.aM.map aN.enc)),.d (.sl (p.aU.map aQ.enc))],.box [.d (.s []),.bD []],.box [.d (.s []),.bU (0,3) (T 3)],.tok 2 (T (3+p.aO.length+i)),.box [.d (.s []),.bU (0,3) (T (3+p.aO.length+i))]]::S)
  (fun i=>i≤p.ay.length) (fun i=>p.ay.length-i) 0 rfl rfl (Nat.zero_le _) ?_
 intro i hi
 have hl:=eO (3+p.aO.length+i)
 simp -implicitDefEqProofs (disch:=omega) only[go_sem]
 with_reducible refine aS (fun hb=> ?_) (fun hb=> ?_)<;>have h:=hb<;>(try simp only[wf_preprocess] at h)<;>simp -implicitDefEqProofs (disch:=omega) only[go_sem,hb]<;>(repeat(with_reducible refine And.intro ?_ ?_;focus first|omega|rfl|assumption|exact⟨_,rfl,rfl⟩|(simp;omega)|(simp;done)))
 ·have hi':i<p.ay.length:=by omega
  have hm:=List.getElem_mem hi'
  have hcz:=bI (List.mem_map_of_mem (f:=aL.enc) hm)
  have uH:p.ay[i].sz≤aI (p.ay.map aL.enc):=hcz
  have hs:=hTs _ _ (g2 i hi')
  have hc:aG Tryz.prog 57 [p.ay[i].v] (.agg [.d (.s (Aa p.ay[i]).dI),.d (.sl ((Aa p.ay[i]).bF.map ak.enc))]):=Fh p.ay[i] (by omega)
  (repeat(with_reducible refine And.intro ?_ ?_;focus first|omega|rfl|assumption|exact⟨_,rfl,rfl⟩|(simp;omega)|(simp;done)))
  refine ah hc ?_
  simp -implicitDefEqProofs (disch:=omega) only[go_sem]
  (repeat(with_reducible refine And.intro ?_ ?_;focus first|omega|rfl|assumption|exact⟨_,rfl,rfl⟩|(simp;omega)|(simp;done)))
  rw[hs]
  exact dz 5 (by decide) (i+1) (by omega) rfl rfl rfl rfl (by omega)
 have hi':i=p.ay.length:=by omega
 subst hi'
 clear hi hl h
 refine aV (ι:=Nat) Tryz.checked.mixed rfl [1,2,3,6] (fun i=>[.c (.ptr (0,0) 0),.c (.ptr (0,1) 0),.c (.ptr (0,4) 0),.c (.d (.i .i64 i))])
  (fun i=>[.box [.d (.s p.fName),.d (.sl (p.dP.map encS)),.d (.sl (p.aO.map bn.enc)),.d (.sl (p.ay.map aL.enc)),.d (.sl (p.aM.map aN.enc)),.d (.sl (p.aU.map aQ.enc))],.box [.d (.s []),.bD []],.box [.d (.s []),.bU (0,3) (T 3)],.tok 2 (T (3+p.aO.length+p.ay.length+i)),.box [.d (.s []),.bU (0,3) (T (3+p.aO.length+p.ay.length+i))]]::S)
  (fun i=>i≤p.aM.length) (fun i=>p.aM.length-i) 0 rfl rfl (Nat.zero_le _) ?_
 intro i hi
 have hl:=eO (3+p.aO.length+p.ay.length+i)
 simp -implicitDefEqProofs (disch:=omega) only[go_sem]
 with_reducible refine aS (fun hb=> ?_) (fun hb=> ?_)<;>have h:=hb<;>(try simp only[wf_preprocess] at h)<;>simp -implicitDefEqProofs (disch:=omega) only[go_sem,hb]<;>(repeat(with_reducible refine And.intro ?_ ?_;focus first|omega|rfl|assumption|exact⟨_,rfl,rfl⟩|(simp;omega)|(simp;done)))
 ·have hi':i<p.aM.length:=by omega
  have hm:=List.getElem_mem hi'
  have hcz:=bI (List.mem_map_of_mem (f:=aN.enc) hm)
  have uH:p.aM[i].sz≤aI (p.aM.map aN.enc):=hcz
  have hs:=hTs _ _ (g3 i hi')
  have hc:aG Tryz.prog 58 [p.aM[i].v] (.agg [.d (.s (Ae p.aM[i]).dI),.d (.sl ((Ae p.aM[i]).bF.map ak.enc))]):=Pk p.aM[i] (by omega)
  (repeat(with_reducible refine And.intro ?_ ?_;focus first|omega|rfl|assumption|exact⟨_,rfl,rfl⟩|(simp;omega)|(simp;done)))
  refine ah hc ?_
  simp -implicitDefEqProofs (disch:=omega) only[go_sem]
  (repeat(with_reducible refine And.intro ?_ ?_;focus first|omega|rfl|assumption|exact⟨_,rfl,rfl⟩|(simp;omega)|(simp;done)))
  rw[hs]
  exact dz 5 (by decide) (i+1) (by omega) rfl rfl rfl rfl (by omega)
 have hi':i=p.aM.length:=by omega
 subst hi'
 clear hi hl h
 refine aV (ι:=Nat) Tryz.checked.mixed rfl [1,2,3,7] (fun i=>[.c (.ptr (0,0) 0),.c (.ptr (0,1) 0),.c (.ptr (0,4) 0),.c (.d (.i .i64 i))])
  (fun i=>[.box [.d (.s p.fName),.d (.sl (p.dP.map encS)),.d (.sl (p.aO.map bn.enc)),.d (.sl (p.ay.map aL.enc)),.d (.sl (p.aM.map aN.enc)),.d (.sl (p.aU.map aQ.enc))],.box [.d (.s []),.bD []],.box [.d (.s []),.bU (0,3) (T 3)],.tok 2 (T (3+p.aO.length+p.ay.length+p.aM.length+i)),.box [.d (.s []),.bU (0,3) (T (3+p.aO.length+p.ay.length+p.aM.length+i))]]::S)
  (fun i=>i≤p.aU.length) (fun i=>p.aU.length-i) 0 rfl rfl (Nat.zero_le _) ?_
 intro i hi
 have hl:=eO (3+p.aO.length+p.ay.length+p.aM.length+i)
 simp -implicitDefEqProofs (disch:=omega) only[go_sem]
 with_reducible refine aS (fun hb=> ?_) (fun hb=> ?_)<;>have h:=hb<;>(try simp only[wf_preprocess] at h)<;>simp -implicitDefEqProofs (disch:=omega) only[go_sem,hb]<;>(repeat(with_reducible refine And.intro ?_ ?_;focus first|omega|rfl|assumption|exact⟨_,rfl,rfl⟩|(simp;omega)|(simp;done)))
 ·have hi':i<p.aU.length:=by omega
  have hm:=List.getElem_mem hi'
  have hcz:=bI (List.mem_map_of_mem (f:=aQ.enc) hm)
  have uH:p.aU[i].sz≤aI (p.aU.map aQ.enc):=hcz
  have hs:=hTs _ _ (g4 i hi')
  have hc:aG Tryz.prog 59 [p.aU[i].v] (.agg [.d (.s (BZ p.aU[i]).dI),.d (.sl ((BZ p.aU[i]).bF.map ak.enc))]):=Li p.aU[i] (by omega)
  (repeat(with_reducible refine And.intro ?_ ?_;focus first|omega|rfl|assumption|exact⟨_,rfl,rfl⟩|(simp;omega)|(simp;done)))
  refine ah hc ?_
  simp -implicitDefEqProofs (disch:=omega) only[go_sem]
  (repeat(with_reducible refine And.intro ?_ ?_;focus first|omega|rfl|assumption|exact⟨_,rfl,rfl⟩|(simp;omega)|(simp;done)))
  rw[hs]
  exact dz 5 (by decide) (i+1) (by omega) rfl rfl rfl rfl (by omega)
 have hi':i=p.aU.length:=by omega
 subst hi'
 clear hi hl h
 have hps:=LA hv
 have hq:∀j,PL[3+j]? =(mR p)[j]? :=fun j=>by
  rw[uZ,List.getElem?_append_right (by simp[eG])]
  congr 1
  simp[eG]
 have hSP:mR p=gH p:=by
  rw[hps]
  exact(List.map_congr_left fun x hx=>by show rV x=x;rw[rV,if_pos (hall x hx)]).trans (List.map_id _)
 have hPP:PL.map ak.enc=(zu p).bF.map ak.enc:=by rw[uZ,hSP];rfl
 have hok:∀j (hj:3+j<PL.length),PL[3+j].bF≠[]:=fun j hj=>by
  have h1:=(hq j).symm.trans (List.getElem?_eq_getElem hj)
  exact WU (p:=p) _ (by rw[←hSP];exact List.mem_of_getElem? h1)
 rw[hTe]
 refine aV (ι:=Nat) Tryz.checked.mixed rfl [2,3,8] (fun i=>[.c (.ptr (0,1) 0),.c (.ptr (0,4) 0),.c (.d (.i .i64 ((3+i:Nat):Int)))])
  (fun i=>[.box [.d (.s p.fName),.d (.sl (p.dP.map encS)),.d (.sl (p.aO.map bn.enc)),.d (.sl (p.ay.map aL.enc)),.d (.sl (p.aM.map aN.enc)),.d (.sl (p.aU.map aQ.enc))],.box [.d (.s []),.bD []],.box [.d (.s []),.bU (0,3) (T 3)],.tok 2 (PL.map ak.enc),.box [.d (.s []),.bU (0,3) (PL.map ak.enc)]]::S)
  (fun i=>3+i≤PL.length∧∀j (hj:3+j<PL.length),j<i→PL[3+j].bF≠[]) (fun i=>PL.length-i) 0 rfl rfl ⟨by omega,fun j hj h=>by omega⟩ ?_
 rintro i ⟨hi,hj⟩
 simp -implicitDefEqProofs (disch:=omega) only[go_sem]
 with_reducible refine aS (fun hb=> ?_) (fun hb=> ?_)<;>have h:=hb<;>(try simp only[wf_preprocess] at h)<;>simp -implicitDefEqProofs (disch:=omega) only[go_sem,hb]<;>(repeat(with_reducible refine And.intro ?_ ?_;focus first|omega|rfl|assumption|exact⟨_,rfl,rfl⟩|(simp;omega)|(simp;done)))
 ·have hi':3+i<PL.length:=by omega
  have hne:=hok i hi'
  with_reducible refine aS (fun hb=> ?_) (fun hb=> ?_)<;>have h:=hb<;>(try simp only[wf_preprocess] at h)<;>simp -implicitDefEqProofs (disch:=omega) only[go_sem,hb]<;>(repeat(with_reducible refine And.intro ?_ ?_;focus first|omega|rfl|assumption|exact⟨_,rfl,rfl⟩|(simp;omega)|(simp;done)))
  ·exact absurd (List.eq_nil_of_length_eq_zero (by omega)) hne
  ·exact bL (i+1) (by omega) rfl rfl ⟨by omega,fun j hj' hlt=>hok j hj'⟩
 ·rw[hPP]
  refine ah (oF true (zu p) (by omega)) ?_
  simp -implicitDefEqProofs (disch:=omega) only[go_sem]
  rfl
set_option maxHeartbeats 4000000 in
theorem Zp(p:bg)(hv:validPkg p=true)(hsz:p.sz≤1048576)(hall:¬∀x∈gH p,jI x=true):aG Tryz.prog 11 [p.v] (.agg [.d (.s []),.bD []]):=fun S=>by
 have hdz:=bg.sum p
 rw[dM] at hdz
 obtain⟨v1,v2,v3,v4,v5⟩:=oJ hv
 obtain⟨hz,hzp⟩:=Jc hv
 obtain⟨PL,uZ⟩:∃PL:List ak,PL=eG p++mR p:=⟨_,rfl⟩
 obtain⟨T,hT⟩:∃T:Nat→List (List D),T=fun i=>(PL.take i).map ak.enc:=⟨_,rfl⟩
 have Jd:T 3=[[.s Kj,.sl []],[.s p.fName,.sl []],[.s [],.sl ((bf p.dP).map ak.enc)]]:=by
  rw[hT,uZ];simp only[eG,List.cons_append,List.nil_append,List.take_succ_cons,List.take_zero,List.map_cons,List.map_nil,eT,iK]
 have hlp:=I9 p
 rw[←uZ] at hlp
 have eO:∀i,(T i).length≤i:=fun i=>by
  rw[hT];simp only[List.length_map]
  exact List.length_take_le i _
 have hTs:∀(i:Nat) (x:ak),PL[i]? =some x→T i++[[.s x.dI,.sl (x.bF.map ak.enc)]]=T (i+1):=fun i x hx=>by
  obtain⟨hi,hg⟩:=List.getElem?_eq_some_iff.1 hx
  have:=iB (base:=[]) (l:=PL) hi
  rw[hg] at this
  rw[hT];exact this
 have hTr:∀i,∀r∈T i,r.length=2:=fun i=>by rw[hT];exact jE
 have g1:=fun i hi=>Lu (p:=p) (i:=i) hi
 have g2:=fun i hi=>Lv (p:=p) (i:=i) hi
 have g3:=fun i hi=>Jb (p:=p) (i:=i) hi
 have g4:=fun i hi=>Lx (p:=p) (i:=i) hi
 rw[←uZ] at g1 g2 g3 g4
 have hTe:T (3+p.aO.length+p.ay.length+p.aM.length+p.aU.length)=PL.map ak.enc:=by
  rw[hT];simp only
  rw[List.take_of_length_le (by omega)]
 clear hT
 refine aA (rs:=[.cell 2 32]) Tryz.checked.mixed Tryz.func11 Tryz.ntmps11 rfl rfl rfl rfl rfl ?_
 simp -implicitDefEqProofs (disch:=omega) only[go_sem]
 refine ah (vR p (by omega)) ?_
 simp -implicitDefEqProofs (disch:=omega) only[go_sem,hv]
 refine ah (bW _) ?_
 simp -implicitDefEqProofs (disch:=omega) only[go_sem]
 refine ah (bW _) ?_
 simp -implicitDefEqProofs (disch:=omega) only[go_sem]
 refine ah (dU p.dP (by omega)) ?_
 simp -implicitDefEqProofs (disch:=omega) only[go_sem]
 have hE:=fun bT Ω=>iZ (T 3) (hTr 3) (by have:=eO 3;omega) bT Ω
 simp only[Jd] at hE
 refine lT [false] rfl (hE _ _) ?_
 simp -implicitDefEqProofs (disch:=omega) only[go_sem]
 refine aV (ι:=Nat) Tryz.checked.mixed rfl [1,2,3,4] (fun i=>[.c (.ptr (0,0) 0),.c (.ptr (0,1) 0),.c (.ptr (0,4) 0),.c (.d (.i .i64 i))])
  (fun i=>[.box [.d (.s p.fName),.d (.sl (p.dP.map encS)),.d (.sl (p.aO.map bn.enc)),.d (.sl (p.ay.map aL.enc)),.d (.sl (p.aM.map aN.enc)),.d (.sl (p.aU.map aQ.enc))],.box [.d (.s []),.bD []],.box [.d (.s []),.bU (0,3) (T 3)],.tok 2 (T (3+i)),.box [.d (.s []),.bU (0,3) (T (3+i))]]::S)
  (fun i=>i≤p.aO.length) (fun i=>p.aO.length-i) 0 rfl (by simp only[Jd]<;>(try rfl)) (Nat.zero_le _) ?_
 intro i hi
 have hl:=eO (3+i)
 simp -implicitDefEqProofs (disch:=omega) only[go_sem]
 with_reducible refine aS (fun hb=> ?_) (fun hb=> ?_)<;>have h:=hb<;>(try simp only[wf_preprocess] at h)<;>simp -implicitDefEqProofs (disch:=omega) only[go_sem,hb]<;>(repeat(with_reducible refine And.intro ?_ ?_;focus first|omega|rfl|assumption|exact⟨_,rfl,rfl⟩|(simp;omega)|(simp;done)))
 ·have hi':i<p.aO.length:=by omega
  have hm:=List.getElem_mem hi'
  have hcz:=bI (List.mem_map_of_mem (f:=bn.enc) hm)
  have uH:p.aO[i].sz≤aI (p.aO.map bn.enc):=hcz
  have hs:=hTs _ _ (g1 i hi')
  have hc:aG Tryz.prog 56 [p.aO[i].v] (.agg [.d (.s (uq p.aO[i]).dI),.d (.sl ((uq p.aO[i]).bF.map ak.enc))]):=Lj p.aO[i] (by omega)
  (repeat(with_reducible refine And.intro ?_ ?_;focus first|omega|rfl|assumption|exact⟨_,rfl,rfl⟩|(simp;omega)|(simp;done)))
  refine ah hc ?_
  simp -implicitDefEqProofs (disch:=omega) only[go_sem]
  (repeat(with_reducible refine And.intro ?_ ?_;focus first|omega|rfl|assumption|exact⟨_,rfl,rfl⟩|(simp;omega)|(simp;done)))
  rw[hs]
  exact dz 5 (by decide) (i+1) (by omega) rfl rfl rfl rfl (by omega)
 have hi':i=p.aO.length:=by omega
 subst hi'
 clear hi hl h
 refine aV (ι:=Nat) Tryz.checked.mixed rfl [1,2,3,5] (fun i=>[.c (.ptr (0,0) 0),.c (.ptr (0,1) 0),.c (.ptr (0,4) 0),.c (.d (.i .i64 i))])
  (fun i=>[.box [.d (.s p.fName),.d (.sl (p.dP.map encS)),.d (.sl (p.aO.map bn.enc)),.d (.sl (p.ay.map aL.enc)),.d (.sl (p.aM.map aN.enc)),.d (.sl (p.aU.map aQ.enc))],.box [.d (.s []),.bD []],.box [.d (.s []),.bU (0,3) (T 3)],.tok 2 (T (3+p.aO.length+i)),.box [.d (.s []),.bU (0,3) (T (3+p.aO.length+i))]]::S)
  (fun i=>i≤p.ay.length) (fun i=>p.ay.length-i) 0 rfl rfl (Nat.zero_le _) ?_
 intro i hi
 have hl:=eO (3+p.aO.length+i)
 simp -implicitDefEqProofs (disch:=omega) only[go_sem]
 with_reducible refine aS (fun hb=> ?_) (fun hb=> ?_)<;>have h:=hb<;>(try simp only[wf_preprocess] at h)<;>simp -implicitDefEqProofs (disch:=omega) only[go_sem,hb]<;>(repeat(with_reducible refine And.intro ?_ ?_;focus first|omega|rfl|assumption|exact⟨_,rfl,rfl⟩|(simp;omega)|(simp;done)))
 ·have hi':i<p.ay.length:=by omega
  have hm:=List.getElem_mem hi'
  have hcz:=bI (List.mem_map_of_mem (f:=aL.enc) hm)
  have uH:p.ay[i].sz≤aI (p.ay.map aL.enc):=hcz
  have hs:=hTs _ _ (g2 i hi')
  have hc:aG Tryz.prog 57 [p.ay[i].v] (.agg [.d (.s (Aa p.ay[i]).dI),.d (.sl ((Aa p.ay[i]).bF.map ak.enc))]):=Fh p.ay[i] (by omega)
  (repeat(with_reducible refine And.intro ?_ ?_;focus first|omega|rfl|assumption|exact⟨_,rfl,rfl⟩|(simp;omega)|(simp;done)))
  refine ah hc ?_
  simp -implicitDefEqProofs (disch:=omega) only[go_sem]
  (repeat(with_reducible refine And.intro ?_ ?_;focus first|omega|rfl|assumption|exact⟨_,rfl,rfl⟩|(simp;omega)|(simp;done)))
  rw[hs]
  exact dz 5 (by decide) (i+1) (by omega) rfl rfl rfl rfl (by omega)
 have hi':i=p.ay.length:=by omega
 subst hi'
 clear hi hl h
 refine aV (ι:=Nat) Tryz.checked.mixed rfl [1,2,3,6] (fun i=>[.c (.ptr (0,0) 0),.c (.ptr (0,1) 0),.c (.ptr (0,4) 0),.c (.d (.i .i64 i))])
  (fun i=>[.box [.d (.s p.fName),.d (.sl (p.dP.map encS)),.d (.sl (p.aO.map bn.enc)),.d (.sl (p.ay.map aL.enc)),.d (.sl (p.aM.map aN.enc)),.d (.sl (p.aU.map aQ.enc))],.box [.d (.s []),.bD []],.box [.d (.s []),.bU (0,3) (T 3)],.tok 2 (T (3+p.aO.length+p.ay.length+i)),.box [.d (.s []),.bU (0,3) (T (3+p.aO.length+p.ay.length+i))]]::S)
  (fun i=>i≤p.aM.length) (fun i=>p.aM.length-i) 0 rfl rfl (Nat.zero_le _) ?_
 intro i hi
 have hl:=eO (3+p.aO.length+p.ay.length+i)
 simp -implicitDefEqProofs (disch:=omega) only[go_sem]
 with_reducible refine aS (fun hb=> ?_) (fun hb=> ?_)<;>have h:=hb<;>(try simp only[wf_preprocess] at h)<;>simp -implicitDefEqProofs (disch:=omega) only[go_sem,hb]<;>(repeat(with_reducible refine And.intro ?_ ?_;focus first|omega|rfl|assumption|exact⟨_,rfl,rfl⟩|(simp;omega)|(simp;done)))
 ·have hi':i<p.aM.length:=by omega
  have hm:=List.getElem_mem hi'
  have hcz:=bI (List.mem_map_of_mem (f:=aN.enc) hm)
  have uH:p.aM[i].sz≤aI (p.aM.map aN.enc):=hcz
  have hs:=hTs _ _ (g3 i hi')
  have hc:aG Tryz.prog 58 [p.aM[i].v] (.agg [.d (.s (Ae p.aM[i]).dI),.d (.sl ((Ae p.aM[i]).bF.map ak.enc))]):=Pk p.aM[i] (by omega)
  (repeat(with_reducible refine And.intro ?_ ?_;focus first|omega|rfl|assumption|exact⟨_,rfl,rfl⟩|(simp;omega)|(simp;done)))
  refine ah hc ?_
  simp -implicitDefEqProofs (disch:=omega) only[go_sem]
  (repeat(with_reducible refine And.intro ?_ ?_;focus first|omega|rfl|assumption|exact⟨_,rfl,rfl⟩|(simp;omega)|(simp;done)))
  rw[hs]
  exact dz 5 (by decide) (i+1) (by omega) rfl rfl rfl rfl (by omega)
 have hi':i=p.aM.length:=by omega
 subst hi'
 clear hi hl h
 refine aV (ι:=Nat) Tryz.checked.mixed rfl [1,2,3,7] (fun i=>[.c (.ptr (0,0) 0),.c (.ptr (0,1) 0),.c (.ptr (0,4) 0),.c (.d (.i .i64 i))])
  (fun i=>[.box [.d (.s p.fName),.d (.sl (p.dP.map encS)),.d (.sl (p.aO.map bn.enc)),.d (.sl (p.ay.map aL.enc)),.d (.sl (p.aM.map aN.enc)),.d (.sl (p.aU.map aQ.enc))],.box [.d (.s []),.bD []],.box [.d (.s []),.bU (0,3) (T 3)],.tok 2 (T (3+p.aO.length+p.ay.length+p.aM.length+i)),.box [.d (.s []),.bU (0,3) (T (3+p.aO.length+p.ay.length+p.aM.length+i))]]::S)
  (fun i=>i≤p.aU.length) (fun i=>p.aU.length-i) 0 rfl rfl (Nat.zero_le _) ?_
 intro i hi
 have hl:=eO (3+p.aO.length+p.ay.length+p.aM.length+i)
 simp -implicitDefEqProofs (disch:=omega) only[go_sem]
 with_reducible refine aS (fun hb=> ?_) (fun hb=> ?_)<;>have h:=hb<;>(try simp only[wf_preprocess] at h)<;>simp -implicitDefEqProofs (disch:=omega) only[go_sem,hb]<;>(repeat(with_reducible refine And.intro ?_ ?_;focus first|omega|rfl|assumption|exact⟨_,rfl,rfl⟩|(simp;omega)|(simp;done)))
 ·have hi':i<p.aU.length:=by omega
  have hm:=List.getElem_mem hi'
  have hcz:=bI (List.mem_map_of_mem (f:=aQ.enc) hm)
  have uH:p.aU[i].sz≤aI (p.aU.map aQ.enc):=hcz
  have hs:=hTs _ _ (g4 i hi')
  have hc:aG Tryz.prog 59 [p.aU[i].v] (.agg [.d (.s (BZ p.aU[i]).dI),.d (.sl ((BZ p.aU[i]).bF.map ak.enc))]):=Li p.aU[i] (by omega)
  (repeat(with_reducible refine And.intro ?_ ?_;focus first|omega|rfl|assumption|exact⟨_,rfl,rfl⟩|(simp;omega)|(simp;done)))
  refine ah hc ?_
  simp -implicitDefEqProofs (disch:=omega) only[go_sem]
  (repeat(with_reducible refine And.intro ?_ ?_;focus first|omega|rfl|assumption|exact⟨_,rfl,rfl⟩|(simp;omega)|(simp;done)))
  rw[hs]
  exact dz 5 (by decide) (i+1) (by omega) rfl rfl rfl rfl (by omega)
 have hi':i=p.aU.length:=by omega
 subst hi'
 clear hi hl h
 have hps:=LA hv
 have hq:∀j,PL[3+j]? =(mR p)[j]? :=fun j=>by
  rw[uZ,List.getElem?_append_right (by simp[eG])]
  congr 1
  simp[eG]
 rw[hTe]
 refine aV (ι:=Nat) Tryz.checked.mixed rfl [2,3,8] (fun i=>[.c (.ptr (0,1) 0),.c (.ptr (0,4) 0),.c (.d (.i .i64 ((3+i:Nat):Int)))])
  (fun i=>[.box [.d (.s p.fName),.d (.sl (p.dP.map encS)),.d (.sl (p.aO.map bn.enc)),.d (.sl (p.ay.map aL.enc)),.d (.sl (p.aM.map aN.enc)),.d (.sl (p.aU.map aQ.enc))],.box [.d (.s []),.bD []],.box [.d (.s []),.bU (0,3) (T 3)],.tok 2 (PL.map ak.enc),.box [.d (.s []),.bU (0,3) (PL.map ak.enc)]]::S)
  (fun i=>3+i≤PL.length∧∀j (hj:3+j<PL.length),j<i→PL[3+j].bF≠[]) (fun i=>PL.length-i) 0 rfl rfl ⟨by omega,fun j hj h=>by omega⟩ ?_
 rintro i ⟨hi,hj⟩
 simp -implicitDefEqProofs (disch:=omega) only[go_sem]
 with_reducible refine aS (fun hb=> ?_) (fun hb=> ?_)<;>have h:=hb<;>(try simp only[wf_preprocess] at h)<;>simp -implicitDefEqProofs (disch:=omega) only[go_sem,hb]<;>(repeat(with_reducible refine And.intro ?_ ?_;focus first|omega|rfl|assumption|exact⟨_,rfl,rfl⟩|(simp;omega)|(simp;done)))
 ·have hi':3+i<PL.length:=by omega
  with_reducible refine aS (fun hb=> ?_) (fun hb=> ?_)<;>have h:=hb<;>(try simp only[wf_preprocess] at h)<;>simp -implicitDefEqProofs (disch:=omega) only[go_sem,hb]<;>(repeat(with_reducible refine And.intro ?_ ?_;focus first|omega|rfl|assumption|exact⟨_,rfl,rfl⟩|(simp;omega)|(simp;done)))
  exact bL (i+1) (by omega) rfl rfl ⟨by omega,fun j hj' hlt=>by
   by_cases e:j=i
   ·subst e;exact fun hn=>h (by rw[hn];rfl)
   ·exact hj j hj' (by omega)⟩
 ·exact absurd (fun x hx=>by
   have hm:rV x∈mR p:=by rw[hps];exact List.mem_map_of_mem hx
   obtain⟨j,hj1,hj2⟩:=List.getElem_of_mem hm
   have hx2:PL[3+j]? =some (rV x):=by rw[hq j,List.getElem?_eq_getElem hj1,hj2]
   obtain⟨hb,hg⟩:=List.getElem?_eq_some_iff.1 hx2
   have h5:=hj j hb (by omega)
   rw[hg] at h5
   cases LB:jI x with
   |true=>rfl
   |false=>exact absurd (by rw[rV,if_neg (by rw[LB];decide)];rfl) h5) hall
theorem UC(x:bg)(hsz:x.sz≤1048576):aG Tryz.prog 11 [x.v] (DX x).v:=by
 unfold DX
 cases hv:validPkg x with
 |false=>
  rw[Bool.false_and,sH]
  refine aG.less (fun S=> ?_) (wH [] [])
  refine aA (rs:=[.cell 2 32]) Tryz.checked.mixed Tryz.func11 Tryz.ntmps11 rfl rfl rfl rfl rfl ?_
  first|refine W1 ?_|exact Z1
  refine ah (vR x (by omega)) ?_
  simp -implicitDefEqProofs (disch:=omega) only[go_sem,hv]
 |true=>
  rw[Bool.true_and]
  cases ha:(gH x).all jI with
  |true=>exact Zo x hv hsz (List.all_eq_true.1 ha)
  |false=>
   rw[sH]
   refine aG.less (Zp x hv hsz fun h=> ?_) (wH [] [])
   rw[List.all_eq_true.2 h] at ha
   cases ha
end Go.Proofs.YtlmhknhlmicmeaaGreatDoor
namespace Go.Proofs.YtlmhknhlmicmeaaGreatDoor
open Go Go.Ab
theorem mI(xs:List (List UInt8)):∀n:Nat,xs.length+aI (xs.map encS)≤1048576→aG Tryz.prog 61 [.c (.d (.sl (xs.map encS)))] (.c (.d (eU (.sl (xs.map encS)) n))):=by
 intro n hsz
 obtain⟨T,hT⟩:∃T,T=fu (xs.map encS) (n+1):=⟨_,rfl⟩
 have eO:T.length=xs.length:=by rw[hT,gB,List.length_map]
 show aG Tryz.prog 61 [.c (.d (.sl (xs.map encS)))] (.c (.d (.ol n (fu (xs.map encS) (n+1)))))
 rw[←hT]
 intro S
 refine jk (n) (rs:=[.tmp 2]) Tryz.checked.mixed Tryz.func61 Tryz.ntmps61 rfl rfl rfl rfl rfl ?_
 first|refine W1 ?_|exact Z1
 (repeat(with_reducible refine And.intro ?_ ?_;focus first|omega|rfl|assumption|exact⟨_,rfl,rfl⟩|(simp;omega)|(simp;done)))
 refine aV (ι:=Nat×List (List D)) Tryz.checked.mixed rfl [0,3,4] (fun y=>[.c (.d (.sl (xs.map encS))),.c (.iy (0,1)),.c (.d (.i .i64 y.1))]) (fun y=>[.seed n,.eZ 1 y.2]::S)
  (fun y=>y.1≤xs.length∧eD 1 y.1 y.2 T) (fun y=>xs.length-y.1) (0,_) rfl rfl ⟨Nat.zero_le _,eD.start (by simp[eO]) rfl⟩ ?_
 rintro⟨i,R⟩ ⟨p1,p2⟩
 simp only at p1 p2
 first|refine W1 ?_|exact Z1
 with_reducible refine aS (fun hb=> ?_) (fun hb=> ?_)<;>have h:=hb<;>(try simp only[wf_preprocess] at h)<;>simp -implicitDefEqProofs (disch:=omega) only[go_sem,hb]<;>(repeat(with_reducible refine And.intro ?_ ?_;focus first|omega|rfl|assumption|exact⟨_,rfl,rfl⟩|(simp;omega)|(simp;done)))
 ·have hi:i<xs.length:=by omega
  have hir:i<(xs.map encS).length:=by rw[List.length_map];exact hi
  have hR:=p2.1
  rw[eO] at hR
  have mJ:T[i]? =some (dR (encS xs[i]) (n+1+dG ((xs.map encS).take i))):=by
   rw[hT,lZ hir,List.getElem_map]
  simp only[encS,dR,eU] at mJ
  (repeat(with_reducible refine And.intro ?_ ?_;focus first|omega|rfl|assumption|exact⟨_,rfl,rfl⟩|(simp;omega)|(simp;done)))
  refine bL (i+1,_) (by simp only;omega) rfl rfl ⟨by simp only;omega,p2.step mJ rfl⟩
 ·have hi:i=xs.length:=by omega
  rw[p2.done (by omega)]
end Go.Proofs.YtlmhknhlmicmeaaGreatDoor
namespace Go.Proofs.YtlmhknhlmicmeaaGreatDoor
open Go Go.Ab
end Go.Proofs.YtlmhknhlmicmeaaGreatDoor
namespace Go.Proofs.YtlmhknhlmicmeaaGreatDoor
open Go Go.Ab
theorem Af:∀N:Nat,(∀x:aj,SizeOf.sizeOf x<N→∀n:Nat,x.sz≤1048576→aG Tryz.prog 94 [x.v] (.agg ((dR x.enc n).map .d)))∧
 (∀xs:List aj,SizeOf.sizeOf xs<N→∀n:Nat,xs.length+aI (xs.map aj.enc)≤1048576→aG Tryz.prog 187 [.c (.d (.sl (xs.map aj.enc)))] (.c (.d (eU (.sl (xs.map aj.enc)) n))))
 |0=>⟨fun x h=>by omega,fun x h=>by omega⟩
 |N+1=>by
  obtain⟨vE,wD⟩:=Af N
  refine⟨fun x hn n hsz=> ?_,fun xs hn n hsz=> ?_⟩
  ·intro S
   have jf:=aj.fI x
   simp only[aj.sz,aj.aC,bP,bA,D.sz,List.length_map] at hsz
   refine aA (rs:=[.cell 2 57]) Tryz.checked.mixed Tryz.func94 Tryz.ntmps94 rfl rfl rfl rfl rfl ?_
   simp only[aj.aC,encS,encI,List.cons_append,List.nil_append,dR,eU,jq,jy,List.map_cons,List.map_nil,Nat.add_zero]
   first|refine W1 ?_|exact Z1
   refine ah (wD x.fArgs (by omega) (n) (by omega)) ?_
   simp -implicitDefEqProofs (disch:=omega) only[go_sem,eU]
   all_goals (first|rfl|(simp only[Nat.add_assoc];done))
  ·obtain⟨T,hT⟩:∃T,T=fu (xs.map aj.enc) (n+1):=⟨_,rfl⟩
   have eO:T.length=xs.length:=by rw[hT,gB,List.length_map]
   show aG Tryz.prog 187 [.c (.d (.sl (xs.map aj.enc)))] (.c (.d (.ol n (fu (xs.map aj.enc) (n+1)))))
   rw[←hT]
   intro S
   refine jk (n) (rs:=[.tmp 2]) Tryz.checked.mixed Tryz.func187 Tryz.ntmps187 rfl rfl rfl rfl rfl ?_
   first|refine W1 ?_|exact Z1
   (repeat(with_reducible refine And.intro ?_ ?_;focus first|omega|rfl|assumption|exact⟨_,rfl,rfl⟩|(simp;omega)|(simp;done)))
   refine aV (ι:=Nat×List (List D)) Tryz.checked.mixed rfl [0,3,4] (fun y=>[.c (.d (.sl (xs.map aj.enc))),.c (.iy (0,1)),.c (.d (.i .i64 y.1))]) (fun y=>[.seed n,.eZ 3 y.2]::S)
    (fun y=>y.1≤xs.length∧eD 3 y.1 y.2 T) (fun y=>xs.length-y.1) (0,_) rfl rfl ⟨Nat.zero_le _,eD.start (by simp[eO]) rfl⟩ ?_
   rintro⟨i,R⟩ ⟨p1,p2⟩
   simp only at p1 p2
   first|refine W1 ?_|exact Z1
   with_reducible refine aS (fun hb=> ?_) (fun hb=> ?_)<;>have h:=hb<;>(try simp only[wf_preprocess] at h)<;>simp -implicitDefEqProofs (disch:=omega) only[go_sem,hb]<;>(repeat(with_reducible refine And.intro ?_ ?_;focus first|omega|rfl|assumption|exact⟨_,rfl,rfl⟩|(simp;omega)|(simp;done)))
   ·have hi:i<xs.length:=by omega
    have hir:i<(xs.map aj.enc).length:=by rw[List.length_map];exact hi
    have hR:=p2.1
    rw[eO] at hR
    have mJ:T[i]? =some (dR (aj.enc xs[i]) (n+1+dG ((xs.map aj.enc).take i))):=by
     rw[hT,lZ hir,List.getElem_map]
    have hx:xs[i].sz≤aI (xs.map aj.enc):=bI (List.mem_map_of_mem (List.getElem_mem hi))
    refine W3 ?_
    refine ah (vE xs[i] (by have:=List.sizeOf_lt_of_mem (List.getElem_mem hi);omega) (n+1+dG ((xs.map aj.enc).take i)) (by omega)) ?_
    obtain⟨row,hrow⟩:∃row,row=dR (aj.enc xs[i]) (n+1+dG ((xs.map aj.enc).take i)):=⟨_,rfl⟩
    have hrl:row.length=3:=by rw[hrow,eY,aj.cK]
    rw[←hrow] at mJ ⊢
    simp -implicitDefEqProofs (disch:=omega) only[go_sem,hrl,mY]
    (repeat(with_reducible refine And.intro ?_ ?_;focus first|omega|rfl|assumption|exact⟨_,rfl,rfl⟩|(simp;omega)|(simp;done)))
    refine bL (i+1,_) (by simp only;omega) rfl rfl ⟨by simp only;omega,p2.step mJ hrl⟩
   ·have hi:i=xs.length:=by omega
    rw[p2.done (by omega)]
theorem qV(x:aj):∀n:Nat,x.sz≤1048576→aG Tryz.prog 94 [x.v] (.agg ((dR x.enc n).map .d)):=(Af _).1 x (Nat.lt_succ_self _)
theorem Fq(xs:List aj):∀n:Nat,xs.length+aI (xs.map aj.enc)≤1048576→aG Tryz.prog 187 [.c (.d (.sl (xs.map aj.enc)))] (.c (.d (eU (.sl (xs.map aj.enc)) n))):=(Af _).2 xs (Nat.lt_succ_self _)
end Go.Proofs.YtlmhknhlmicmeaaGreatDoor
namespace Go.Proofs.YtlmhknhlmicmeaaGreatDoor
open Go Go.Ab
end Go.Proofs.YtlmhknhlmicmeaaGreatDoor
namespace Go.Proofs.YtlmhknhlmicmeaaGreatDoor
open Go Go.Ab
theorem QZ(x:bq):∀n:Nat,x.sz≤1048576→aG Tryz.prog 314 [x.v] (.agg ((dR x.enc n).map .d)):=by
 intro n hsz S
 simp only[bq.sz,bq.aC,bP,bA,D.sz,List.length_map,aj.dw] at hsz
 refine aA (rs:=[.cell 2 247]) Tryz.checked.mixed Tryz.func314 Tryz.ntmps314 rfl rfl rfl rfl rfl ?_
 simp only[bq.aC,aj.aC,encS,encI,List.cons_append,List.nil_append,dR,eU,jq,jy,List.map_cons,List.map_nil,Nat.add_zero]
 first|refine W1 ?_|exact Z1
 refine ah (qV x.fType (n) (by omega)) ?_
 simp -implicitDefEqProofs (disch:=omega) only[go_sem,aj.aC,encS,encI,List.cons_append,List.nil_append,dR,eU,jq,jy,List.map_cons,List.map_nil,Nat.add_zero]
 all_goals (first|rfl|(simp only[Nat.add_assoc];done))
theorem DY(xs:List bq):∀n:Nat,xs.length+aI (xs.map bq.enc)≤1048576→aG Tryz.prog 258 [.c (.d (.sl (xs.map bq.enc)))] (.c (.d (eU (.sl (xs.map bq.enc)) n))):=by
 intro n hsz
 obtain⟨T,hT⟩:∃T,T=fu (xs.map bq.enc) (n+1):=⟨_,rfl⟩
 have eO:T.length=xs.length:=by rw[hT,gB,List.length_map]
 show aG Tryz.prog 258 [.c (.d (.sl (xs.map bq.enc)))] (.c (.d (.ol n (fu (xs.map bq.enc) (n+1)))))
 rw[←hT]
 intro S
 refine jk (n) (rs:=[.tmp 2]) Tryz.checked.mixed Tryz.func258 Tryz.ntmps258 rfl rfl rfl rfl rfl ?_
 first|refine W1 ?_|exact Z1
 (repeat(with_reducible refine And.intro ?_ ?_;focus first|omega|rfl|assumption|exact⟨_,rfl,rfl⟩|(simp;omega)|(simp;done)))
 refine aV (ι:=Nat×List (List D)) Tryz.checked.mixed rfl [0,3,4] (fun y=>[.c (.d (.sl (xs.map bq.enc))),.c (.iy (0,1)),.c (.d (.i .i64 y.1))]) (fun y=>[.seed n,.eZ 4 y.2]::S)
  (fun y=>y.1≤xs.length∧eD 4 y.1 y.2 T) (fun y=>xs.length-y.1) (0,_) rfl rfl ⟨Nat.zero_le _,eD.start (by simp[eO]) rfl⟩ ?_
 rintro⟨i,R⟩ ⟨p1,p2⟩
 simp only at p1 p2
 first|refine W1 ?_|exact Z1
 with_reducible refine aS (fun hb=> ?_) (fun hb=> ?_)<;>have h:=hb<;>(try simp only[wf_preprocess] at h)<;>simp -implicitDefEqProofs (disch:=omega) only[go_sem,hb]<;>(repeat(with_reducible refine And.intro ?_ ?_;focus first|omega|rfl|assumption|exact⟨_,rfl,rfl⟩|(simp;omega)|(simp;done)))
 ·have hi:i<xs.length:=by omega
  have hir:i<(xs.map bq.enc).length:=by rw[List.length_map];exact hi
  have hR:=p2.1
  rw[eO] at hR
  have mJ:T[i]? =some (dR (bq.enc xs[i]) (n+1+dG ((xs.map bq.enc).take i))):=by
   rw[hT,lZ hir,List.getElem_map]
  have hx:xs[i].sz≤aI (xs.map bq.enc):=bI (List.mem_map_of_mem (List.getElem_mem hi))
  refine W3 ?_
  refine ah (QZ xs[i] (n+1+dG ((xs.map bq.enc).take i)) (by omega)) ?_
  obtain⟨row,hrow⟩:∃row,row=dR (bq.enc xs[i]) (n+1+dG ((xs.map bq.enc).take i)):=⟨_,rfl⟩
  have hrl:row.length=4:=by rw[hrow,eY,bq.cK]
  rw[←hrow] at mJ ⊢
  simp -implicitDefEqProofs (disch:=omega) only[go_sem,hrl,mY]
  (repeat(with_reducible refine And.intro ?_ ?_;focus first|omega|rfl|assumption|exact⟨_,rfl,rfl⟩|(simp;omega)|(simp;done)))
  refine bL (i+1,_) (by simp only;omega) rfl rfl ⟨by simp only;omega,p2.step mJ hrl⟩
 ·have hi:i=xs.length:=by omega
  rw[p2.done (by omega)]
end Go.Proofs.YtlmhknhlmicmeaaGreatDoor
