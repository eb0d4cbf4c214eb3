/-
  SEVERAL TEXTS IN ONE (merged by program): contracts and models, each with its own heading.
-/
import Derived.Test.YtlaaknnkeidlbaaGreatDoorPartDmbN
open Go.Proofs Go.Proofs.Tryz
set_option linter.unusedSimpArgs false
set_option linter.unusedVariables false
set_option maxRecDepth 4000
namespace Go.Ab
noncomputable def lW(t:bJ):List (List UInt8):=t.aA.map bA.fName
noncomputable def xQ(t:bJ):Prop:=t.pY=true/\(t.bR=true\/0<t.aA.length\/0<t.bU.length)
noncomputable def dO(t:bJ):Bool:=
 validName t.fName&&(dec (t.bU.length<=4)&&(iI t.bU&&(dec (t.aA.length<=6)&&(!dec (xQ t)&&(t.aA.all iF&&dec (lW t).Nodup)))))
theorem bJ.sum(x:bJ):x.fName.length+(x.bU.length+aP (x.bU.map encS))+(x.aA.length+aP (x.aA.map bA.enc))<=x.sz:=by
 simp only[bJ.sz,bJ.aJ,bQ,bP,D.sz,List.length_map];omega
theorem zu{xs:List bA}{t:bA}(h:t∈xs):t.sz<=aP (xs.map bA.enc):=dz (List.mem_map_of_mem h)
theorem acw{g:bA}(h:iF g=true):validName g.fName=true:=by
 unfold iF at h;rw[Bool.and_eq_true] at h;exact h.1
theorem Y4{t:bJ}(h:t.aA.all iF=true):(lW t).all validName=true:=by
 unfold lW;rw[List.all_map];refine List.all_eq_true.2 fun g hg=>acw (List.all_eq_true.1 h g hg)
theorem Dg(t:bJ)(hsz:t.sz<=4194304):aF prog 57 [t.v] (.c (.d (.b (dO t)))):=fun S=>by
 have hs:=bJ.sum t
 have hV:∀s∈t.bU,s.length<=4194304:=fun s h=>by have:=sP h;omega
 have hG:∀g∈t.aA,g.sz<=4194304:=fun g h=>by have:=zu h;omega
 refine(show Hold ((validName t.fName=true/\t.bU.length<=4/\iI t.bU=true/\t.aA.length<=6/\¬xQ t)-> ?T)->_ from fun tail=> ?main) ?tp
 case' main=>
  refine zcx [.tmp 2] func57 ntmps57 ?_;refine W1 ?_;refine C2 (iy t.fName (by omega)) ?_;refine S0 (fun hb h=>?_) fun hb h=>?_
  ·exact aI (by unfold dO;rw[h];rfl)
  have h1:=h;refine S0 (fun hb h=>?_) fun hb h=>?_
  ·exact aI (by unfold dO;rw[aR (show ¬t.bU.length<=4 by omega)];simp)
  have h2:=h;refine W3 ?_;refine C2 (oQ t.bU (by omega) hV) ?_;refine S0 (fun hb h=>?_) fun hb h=>?_
  ·exact aI (by unfold dO;rw[h];simp)
  have h3:=h;refine S0 (fun hb h=>?_) fun hb h=>?_
  ·exact aI (by unfold dO;rw[aR (show ¬t.aA.length<=6 by omega)];simp)
  have h4:=h;have bad:xQ t->V.c (.d (.b false))=V.c (.d (.b (dO t))):=fun h=>aI (by unfold dO;rw[bM h];simp);have pre:¬xQ t->(validName t.fName=true/\t.bU.length<=4/\iI t.bU=true/\t.aA.length<=6/\¬xQ t):=fun h=>⟨h1,by omega,h3,by omega,h⟩
  repeat' (first|refine S0 (fun hb h=>?_) fun hb h=>?_)
  all_goals first
   |(refine bad ⟨by assumption,?_⟩;first|exact .inl (by assumption)|exact .inr (.inl (by omega))|exact .inr (.inr (by omega)))
   |skip
  all_goals
   have na:¬xQ t:=fun x=>by
    obtain⟨x1,x2⟩:=x
    rcases x2 with x2|x2|x2<;>first|omega|simp_all
   refine W3 ?_;refine qG 3 1 [] rfl (by simp) ?_;refine qx (st':=[.box (t.enc.map .d),.tok 1 []]::S) [3,48,49,50] [.c (.bI (0,1) []),.c (.d (.sl (t.aA.map bA.enc))),.c (.d (.i .i64 t.aA.length)),.c (.d (.i .i64 0))] ?_ ?_ ?_
   ·rfl
   ·first|(refine W1 ?_;done)|(refine W1 ?_;simp[*])
   ·exact tail.out (pre na)
 refine⟨fun hp=> ?_⟩;obtain⟨h1,h2,h3,h4,h5⟩:=hp
 have bad:∀i,∀hi:i<t.aA.length,iF t.aA[i]=false->dO t=false:=fun i hi h=>by
  have:t.aA.all iF=false:=Bool.eq_false_iff.2 fun hx=>by
   rw[List.all_eq_true.1 hx _ (List.getElem_mem hi)] at h;cases h
  unfold dO
  rw[this];simp
 refine aZ (ι:=Nat×List (List UInt8)) zmx rfl [3,48,49,50] (fun y=>[.c (.bI (0,1) (y.2.map encS)),.c (.d (.sl (t.aA.map bA.enc))),.c (.d (.i .i64 t.aA.length)),.c (.d (.i .i64 y.1))]) (fun y=>[.box (t.enc.map .d),.tok 1 (y.2.map encS)]::S)
  (fun y=>y.1<=t.aA.length/\y.2=(lW t).take y.1/\∀j,∀hj:j<t.aA.length,j<y.1->iF t.aA[j]=true) (fun y=>t.aA.length-y.1) (0,[]) rfl ?_ ⟨Nat.zero_le _,rfl,fun j _ h=>by simp only at h;omega⟩ ?_
 ·exact Z1
 rintro⟨i,names⟩ ⟨p1,p2,p3⟩;simp only at p1 p2 p3
 have pl:names.length<=t.aA.length:=by rw[p2];simp[lW];omega
 refine W1 ?_;refine S0 (fun hb h=>?_) fun hb h=>?_
 ·have hi:i<t.aA.length:=by omega
  refine W3 ?_;refine C2 (Rw t.aA[i] (hG _ (List.getElem_mem hi))) ?_;refine S0 (fun hb h=>?_) fun hb h=>?_
  ·rw[bad i hi h]
  have k2:=h;refine W3 ?_;rw[show List.map encS names++[[D.s t.aA[i].fName]]=List.map encS (names++[t.aA[i].fName]) by simp[encS]]
  exact bT 2 (by decide) (i+1,names++[t.aA[i].fName]) (by simp only;omega) rfl rfl rfl rfl ⟨by simp only;omega,by simp only;rw[p2,iQ (by simpa [lW] using hi)];simp[lW],fun j hj hji=>by
   simp only at hji;by_cases e:j=i
   ·subst e;exact k2
   ·exact p3 j hj (by omega)⟩
 have hi:i=t.aA.length:=by omega
 have hn:names=lW t:=by rw[p2,List.take_of_length_le (by simp[lW];omega)]
 have hall:t.aA.all iF=true:=List.all_eq_true.2 fun c hc=>by
  obtain⟨j,hj,e⟩:=List.getElem_of_mem hc;rw[<-e];exact p3 j hj (by omega)
 refine C2 (p9 names (by omega)) ?_;exact aI (by unfold dO;rw[h1,h3,hall,<-hn,bM h2,bM h4,aR h5];simp)
theorem qL(t:bJ)(hsz:t.sz<=4194304):aF prog 157 [t.v] (.c (.d (.b (dO t)))):=fun S=>by
 have hs:=bJ.sum t
 have hV:∀s∈t.bU,s.length<=4194304:=fun s h=>by have:=sP h;omega
 have hG:∀g∈t.aA,g.sz<=4194304:=fun g h=>by have:=zu h;omega
 have bad:∀i,∀hi:i<t.aA.length,iF t.aA[i]=false->dO t=false:=fun i hi h=>by
  have:t.aA.all iF=false:=Bool.eq_false_iff.2 fun hx=>by
   rw[List.all_eq_true.1 hx _ (List.getElem_mem hi)] at h;cases h
  unfold dO
  rw[this];simp
 have asf:xQ t->V.c (.d (.b false))=V.c (.d (.b (dO t))):=fun h=>aI (by unfold dO;rw[bM h];simp);refine zcx [.tmp 2] func157 ntmps157 ?_;refine W1 ?_;refine W3 ?_;refine qG 3 1 [] rfl (by simp) ?_
 refine aZ (ι:=Nat×List (List UInt8)) zmx rfl [1,3,4] (fun y=>[.c (.ptr (0,0) 0),.c (.bI (0,1) (y.2.map encS)),.c (.d (.i .i64 y.1))]) (fun y=>[.box (t.enc.map .d),.tok 1 (y.2.map encS)]::S)
  (fun y=>y.1<=t.aA.length/\y.2=(lW t).take y.1/\∀j,∀hj:j<t.aA.length,j<y.1->iF t.aA[j]=true) (fun y=>t.aA.length-y.1) (0,[]) rfl ?_ ⟨Nat.zero_le _,rfl,fun j _ h=>by simp only at h;omega⟩ ?_
 ·exact Z1
 rintro⟨i,names⟩ ⟨p1,p2,p3⟩;simp only at p1 p2 p3
 have pl:names.length<=t.aA.length:=by rw[p2];simp[lW];omega
 refine W1 ?_;refine S0 (fun hb h=>?_) fun hb h=>?_
 ·have hi:i<t.aA.length:=by omega
  refine W3 ?_;refine C2 (afr t.aA[i] (hG _ (List.getElem_mem hi))) ?_;refine S0 (fun hb h=>?_) fun hb h=>?_
  ·rw[bad i hi h]
  have k2:=h;refine W3 ?_;rw[show List.map encS names++[[D.s t.aA[i].fName]]=List.map encS (names++[t.aA[i].fName]) by simp[encS]]
  exact dB (i+1,names++[t.aA[i].fName]) (by simp only;omega) rfl rfl ⟨by simp only;omega,by simp only;rw[p2,iQ (by simpa [lW] using hi)];simp[lW],fun j hj hji=>by
   simp only at hji;by_cases e:j=i
   ·subst e;exact k2
   ·exact p3 j hj (by omega)⟩
 have hi:i=t.aA.length:=by omega
 have hn:names=lW t:=by rw[p2,List.take_of_length_le (by simp[lW];omega)]
 have hall:t.aA.all iF=true:=List.all_eq_true.2 fun c hc=>by
  obtain⟨j,hj,e⟩:=List.getElem_of_mem hc;rw[<-e];exact p3 j hj (by omega)
 have Oz:=Y4 hall
 have hnl:∀s∈names,s.length<=4194304:=fun s hm=>by
  rw[hn] at hm;obtain⟨g,hg,e⟩:=List.mem_map.1 hm;have:=hG g hg;have:=bA.sum g;rw[<-e];omega
 have hlen:names.length=t.aA.length:=by rw[hn];simp[lW]
 clear bad p2 p3
 repeat' (first|refine S0 (fun hb h=>?_) fun hb h=>?_)
 all_goals first
  |(refine asf ⟨by assumption,?_⟩;first|exact .inl (by assumption)|exact .inr (.inl (by omega))|exact .inr (.inr (by omega)))
  |skip
 all_goals
  have na:¬xQ t:=fun x=>by
   obtain⟨x1,x2⟩:=x
   rcases x2 with x2|x2|x2<;>first|omega|simp_all
  refine W3 ?_;refine C1 (iA t.fName (by omega)) ?_;refine S0 (fun hb h=>?_) fun hb h=>?_
  ·have h1:=h;refine W3 ?_;refine C2 (mG t.bU 4 (by omega) hV) ?_;refine S0 (fun hb h=>?_) fun hb h=>?_
   ·have h2:=h;rw[Bool.and_eq_true] at h2;have h3:=gJ h2.1;refine C2 (mG names 6 (by omega) hnl) ?_;refine aI ?_;unfold dO;rw[h1,h2.2,hall,aR na,bM (show t.bU.length<=4 by omega),hlen];unfold iI;rw[hn,Oz,Bool.and_true];simp only[Bool.true_and,Bool.not_false];congr 1;exact iO ⟨fun h=>by omega,fun h=>by omega⟩
   ·refine aI ?_;unfold dO
    have h2:(dec (t.bU.length<=4)&&iI t.bU)=false:=by
     rw[<-h];congr 1;exact iO ⟨fun h=>by omega,fun h=>by omega⟩
    rw[<-Bool.and_assoc (dec (t.bU.length<=4)),h2];simp
  ·exact aI (by unfold dO;rw[h];rfl)
def wH:List UInt8:=[97,117,116,111]
def lC:List UInt8:=[116,114,97,105,116]
def lD(t:bJ):List (List UInt8):=(if t.pY=true then [wH] else [])++(if t.bR=true then [jf] else [])
def nN(g:bA):ah:=bH ([bN g.fName,bH (g.bC.map dn),dn g.cB]++if g.iP=true then [bH (aO g.aH),fu g.fBody] else [])
theorem LX(n:Nat)(es:List (List D)):Less (.c (.d (.ol n es))) (.c (.d (.sl es))):=fun w σ S β v h=>⟨um h.1,h.2⟩
def iX(t:bJ):List ah:=[bN lC,bN t.fName,bH (aO t.bU),bH (aO (lD t))]
def jW(t:bJ):ah:=bH (iX t++t.aA.map nN)
noncomputable def yH(x:bJ):ah:=vv (dO x) (jW x)
theorem AY{g:bA}(h:g.iP=true):(nN g).aj=[bN g.fName,bH (g.bC.map dn),dn g.cB,bH (aO g.aH),fu g.fBody]:=by rw[nN,if_pos h];rfl
theorem AZ{g:bA}(h:g.iP=false):(nN g).aj=[bN g.fName,bH (g.bC.map dn),dn g.cB]:=by rw[nN,if_neg (by rw[h];decide)];rfl
theorem A8(g:bA):(nN g).aQ=[]:=rfl
theorem rG{g:bA}(h:iF g=true):iZ g.bC=true/\formed g.cB=true/\(g.iP=true->iR g.fBody=true):=by
 unfold iF at h;simp only[Bool.and_eq_true] at h;obtain⟨_,_,h1,h2,h3⟩:=h;refine⟨yR h1,wF h2,fun hd=> ?_⟩;rw[if_pos hd,Bool.and_eq_true] at h3;exact FE h3.2
theorem an2(g:bA)(hok:iF g=true):(nN g).sz<=48+32*g.sz:=by
 obtain⟨_,_,hb⟩:=rG hok;have h1:=PG g.bC;have h2:=Cb g.cB;have h3:=bA.sum g;rw[dH,AP] at h3;by_cases hd:g.iP=true
 ·have h4:=Kv g.fBody (hb hd);rw[nN,if_pos hd,jl];simp[dA,jM,jl,jr,rC];omega
 ·rw[nN,if_neg hd,jl];simp[dA,jM,jl,jr,rC];omega
theorem Z0:∀l:List bA,(∀g∈l,iF g=true)->dA (l.map nN)<=48*l.length+32*aP (l.map bA.enc)
 |[],_=>by simp[dA]
 |c::l,h=>by
  have h1:=an2 c (h c (List.mem_cons_self ..));have h2:=Z0 l fun g hg=>h g (List.mem_cons_of_mem _ hg);rw[List.map_cons,dA,List.map_cons,aP,List.length_cons];simp only[bA.sz] at h1;omega
theorem jD{t:bJ}(h:dO t=true):(∀g∈t.aA,iF g=true)/\¬(t.pY=true/\t.bR=true):=by
 unfold dO at h;simp only[Bool.and_eq_true,Bool.not_eq_true'] at h;obtain⟨_,_,_,_,h1,h2,_⟩:=h;refine⟨fun g hg=>List.all_eq_true.1 h2 g hg,fun hh=> ?_⟩;rw[bM (show xQ t from⟨hh.1,.inl hh.2⟩)] at h1;cases h1
theorem afu(t:bJ):(lD t).length<=2/\((lD t).map List.length).sum<=9:=by
 unfold lD;split<;>split<;>simp[wH,jf]
theorem G9{t:bJ}(hok:dO t=true):(jW t).sz<=64+49*t.sz:=by
 have h1:=Z0 t.aA (jD hok).1;have h2:=afu t;have h3:=bJ.sum t;rw[dH] at h3;rw[jW,jl,gL,List.length_append,List.length_map];simp[iX,dA,jM,jl,jr,rC,lC];omega
theorem Gc(n:Nat)(a b:List UInt8)(w v:List (List UInt8)):lx [bN a,bN b,bH (aO w),bH (aO v)] (n+1)=[[.s a,.ol (n+1) []],[.s b,.ol (n+1+1) []],[.s [],.ol (n+1+1+1) (lx (aO w) (n+1+1+1+1))],[.s [],.ol (n+1+1+1+dU (bH (aO w))) (lx (aO v) (n+1+1+1+dU (bH (aO w))+1))]]:=by
 simp only[jG,nk,jF,kM,kN,dZ,dw,jT]
theorem Y5(t:bJ)(n:Nat)(hv:dO t=true)(hsz:t.sz<=1048576)(ha:t.pY=true)(hs:t.bR=false):aF prog 125 [t.v] (.agg [.d (.s []),.d (.ol n (lx (jW t).aj (n+1)))]):=fun S=>by
 have hdz:=bJ.sum t;rw[dH] at hdz;obtain⟨hso,_⟩:=jD hv
 have hfl:lD t=[wH]:=by unfold lD;rw[ha,hs];rfl
 obtain⟨L,hL⟩:∃L:Nat->Nat,L=fun i=>n+1+iL (iX t++(t.aA.map nN).take i):=⟨_,rfl⟩;obtain⟨T,hT⟩:∃T:Nat->List (List D),T=fun i=>lx (iX t++(t.aA.map nN).take i) (n+1):=⟨_,rfl⟩
 have hT0:T 0=[[.s lC,.ol (n+1) []],[.s t.fName,.ol (n+1+1) []],[.s [],.ol (n+1+1+1) (lx (aO t.bU) (n+1+1+1+1))],[.s [],.ol (n+1+1+1+dU (bH (aO t.bU))) (lx (aO [wH]) (n+1+1+1+dU (bH (aO t.bU))+1))]]:=by
  rw[hT];simp only[List.take_zero,List.append_nil,iX,hfl];exact Gc _ _ _ _ _
 have gM:∀i,(T i).length<=i+4:=fun i=>by
  rw[hT];simp only[gG,List.length_append];have:=List.length_take_le i (t.aA.map nN);simp[iX];omega
 have hTs:∀i (hi:i<t.aA.length),T i++[[.s [],.ol (L i) (lx (nN t.aA[i]).aj (L i+1))]]=T (i+1):=fun i hi=>by
  have:=AU (base:=iX t) (l:=t.aA.map nN) (i:=i) (by rw[List.length_map];exact hi) (n+1);rw[List.getElem_map,A8] at this;rw[hT,hL];exact this
 have hTr:∀i,∀r∈T i,r.length=2:=fun i=>by rw[hT];exact ku
 have hTe:T t.aA.length=lx (jW t).aj (n+1):=by
  rw[hT];simp only
  rw[List.take_of_length_le (by simp)];rfl
 clear hT hL;refine qR (n) 1 (rs:=[.cell 2 37]) zmx func125 ntmps125 rfl rfl rfl rfl rfl ?_;simp -implicitDefEqProofs (disch:=omega) only[go_sem,ha,hs];refine W3 ?_;refine C1 (dx _ (n+1)) ?_;refine C1 (dx _ (n+1+1)) ?_;refine C1 (eD t.bU (by omega) (n+1+1+1)) ?_;refine jS (eD [wH] (by simp) (n+1+1+1+dU (bH (aO t.bU)))) (.cons (LX n _) .nil) ?_;refine W1 ?_;refine W3 ?_;refine kR n 4 2 (T 0) (.inl ?_) (hTr 0) ?_
 ·rw[hT0];rfl
 refine nY (L 0) ?_
 refine aZ (ι:=Nat) zmx rfl [2,4,30,31,32] (fun i=>[.c (.ptr (0,3) 0),.c (.bI (0,4) (T i)),.c (.d (.sl (t.aA.map bA.enc))),.c (.d (.i .i64 t.aA.length)),.c (.d (.i .i64 i))])
  (fun i=>[.seed (L i),.seed 1,.box [.d (.s t.fName),.d (.sl (t.bU.map encS)),.d (.b true),.d (.b false),.d (.sl (t.aA.map bA.enc))],.box [.d (.s []),.bF []],.eG n 2 (T i)]::S)
  (fun i=>i<=t.aA.length) (fun i=>t.aA.length-i) 0 rfl rfl (Nat.zero_le _) ?_
 intro i hi;have hl:=gM i;refine W1 ?_;refine S0 (fun hb h=>?_) fun hb h=>?_
 ·have hi':i<t.aA.length:=by omega
  have hm:=List.getElem_mem hi';have hcz:=zu hm;have hce:=bA.sum t.aA[i];rw[dH] at hce;obtain⟨q1,q2,q3⟩:=rG (hso _ hm);have hst:=hTs i hi';refine W3 ?_;refine C1 (dx _ (L i+1)) ?_;refine C1 (Bw t.aA[i].bC (L i+1+1) (L i+1+1+1) q1 (by omega) (fun u hu=>by have:=zo hu;omega)) ?_;refine C1 (kP _) ?_;refine C1 (lJ t.aA[i].cB (L i+1+1+dU (bH (t.aA[i].bC.map dn))) q2 (by omega)) ?_;refine S0 (fun hb h=>?_) fun hb h=>?_
  ·rw[AY h] at hst;simp only[jG,nk,jF,kM,kN,dZ,dw,jT] at hst;refine C1 (eD t.aA[i].aH (by omega) (L i+1+1+dU (bH (t.aA[i].bC.map dn))+dU (dn t.aA[i].cB))) ?_;refine C1 (Ae t.aA[i].fBody (L i+1+1+dU (bH (t.aA[i].bC.map dn))+dU (dn t.aA[i].cB)+dU (bH (aO t.aA[i].aH))) (q3 h) (by omega)) ?_;refine W3 ?_;refine C1 (kP _) ?_;refine W3 ?_;rw[hst];refine kH (L (i+1)) 4 (by decide) (i+1) (by omega) rfl rfl ?_ rfl (by omega);simp[iN,gT,V.refs,C.refs,jY]
  ·rw[AZ h] at hst;simp only[jG,nk,jF,kM,kN,dZ,dw,jT] at hst;refine C1 (nM _ _) ?_;refine W3 ?_;rw[hst];refine kH (L (i+1)) 4 (by decide) (i+1) (by omega) rfl rfl ?_ rfl (by omega);simp[iN,gT,V.refs,C.refs,jY]
 ·have hi':i=t.aA.length:=by omega
  refine aW rfl (jV 0 4 _ _) ?_;refine W1 ?_;rw[hi',hTe]
theorem Y6(t:bJ)(n:Nat)(hv:dO t=true)(hsz:t.sz<=1048576)(ha:t.pY=false)(hs:t.bR=true):aF prog 125 [t.v] (.agg [.d (.s []),.d (.ol n (lx (jW t).aj (n+1)))]):=fun S=>by
 have hdz:=bJ.sum t;rw[dH] at hdz;obtain⟨hso,_⟩:=jD hv
 have hfl:lD t=[jf]:=by unfold lD;rw[ha,hs];rfl
 obtain⟨L,hL⟩:∃L:Nat->Nat,L=fun i=>n+1+iL (iX t++(t.aA.map nN).take i):=⟨_,rfl⟩;obtain⟨T,hT⟩:∃T:Nat->List (List D),T=fun i=>lx (iX t++(t.aA.map nN).take i) (n+1):=⟨_,rfl⟩
 have hT0:T 0=[[.s lC,.ol (n+1) []],[.s t.fName,.ol (n+1+1) []],[.s [],.ol (n+1+1+1) (lx (aO t.bU) (n+1+1+1+1))],[.s [],.ol (n+1+1+1+dU (bH (aO t.bU))) (lx (aO [jf]) (n+1+1+1+dU (bH (aO t.bU))+1))]]:=by
  rw[hT];simp only[List.take_zero,List.append_nil,iX,hfl];exact Gc _ _ _ _ _
 have gM:∀i,(T i).length<=i+4:=fun i=>by
  rw[hT];simp only[gG,List.length_append];have:=List.length_take_le i (t.aA.map nN);simp[iX];omega
 have hTs:∀i (hi:i<t.aA.length),T i++[[.s [],.ol (L i) (lx (nN t.aA[i]).aj (L i+1))]]=T (i+1):=fun i hi=>by
  have:=AU (base:=iX t) (l:=t.aA.map nN) (i:=i) (by rw[List.length_map];exact hi) (n+1);rw[List.getElem_map,A8] at this;rw[hT,hL];exact this
 have hTr:∀i,∀r∈T i,r.length=2:=fun i=>by rw[hT];exact ku
 have hTe:T t.aA.length=lx (jW t).aj (n+1):=by
  rw[hT];simp only
  rw[List.take_of_length_le (by simp)];rfl
 clear hT hL;refine qR (n) 1 (rs:=[.cell 2 37]) zmx func125 ntmps125 rfl rfl rfl rfl rfl ?_;simp -implicitDefEqProofs (disch:=omega) only[go_sem,ha,hs];refine W3 ?_;refine C1 (dx _ (n+1)) ?_;refine C1 (dx _ (n+1+1)) ?_;refine C1 (eD t.bU (by omega) (n+1+1+1)) ?_;refine jS (eD [jf] (by simp) (n+1+1+1+dU (bH (aO t.bU)))) (.cons (LX n _) .nil) ?_;refine W1 ?_;refine W3 ?_;refine kR n 4 2 (T 0) (.inl ?_) (hTr 0) ?_
 ·rw[hT0];rfl
 refine nY (L 0) ?_
 refine aZ (ι:=Nat) zmx rfl [2,4,30,31,32] (fun i=>[.c (.ptr (0,3) 0),.c (.bI (0,4) (T i)),.c (.d (.sl (t.aA.map bA.enc))),.c (.d (.i .i64 t.aA.length)),.c (.d (.i .i64 i))])
  (fun i=>[.seed (L i),.seed 1,.box [.d (.s t.fName),.d (.sl (t.bU.map encS)),.d (.b false),.d (.b true),.d (.sl (t.aA.map bA.enc))],.box [.d (.s []),.bF []],.eG n 2 (T i)]::S)
  (fun i=>i<=t.aA.length) (fun i=>t.aA.length-i) 0 rfl rfl (Nat.zero_le _) ?_
 intro i hi;have hl:=gM i;refine W1 ?_;refine S0 (fun hb h=>?_) fun hb h=>?_
 ·have hi':i<t.aA.length:=by omega
  have hm:=List.getElem_mem hi';have hcz:=zu hm;have hce:=bA.sum t.aA[i];rw[dH] at hce;obtain⟨q1,q2,q3⟩:=rG (hso _ hm);have hst:=hTs i hi';refine W3 ?_;refine C1 (dx _ (L i+1)) ?_;refine C1 (Bw t.aA[i].bC (L i+1+1) (L i+1+1+1) q1 (by omega) (fun u hu=>by have:=zo hu;omega)) ?_;refine C1 (kP _) ?_;refine C1 (lJ t.aA[i].cB (L i+1+1+dU (bH (t.aA[i].bC.map dn))) q2 (by omega)) ?_;refine S0 (fun hb h=>?_) fun hb h=>?_
  ·rw[AY h] at hst;simp only[jG,nk,jF,kM,kN,dZ,dw,jT] at hst;refine C1 (eD t.aA[i].aH (by omega) (L i+1+1+dU (bH (t.aA[i].bC.map dn))+dU (dn t.aA[i].cB))) ?_;refine C1 (Ae t.aA[i].fBody (L i+1+1+dU (bH (t.aA[i].bC.map dn))+dU (dn t.aA[i].cB)+dU (bH (aO t.aA[i].aH))) (q3 h) (by omega)) ?_;refine W3 ?_;refine C1 (kP _) ?_;refine W3 ?_;rw[hst];refine kH (L (i+1)) 4 (by decide) (i+1) (by omega) rfl rfl ?_ rfl (by omega);simp[iN,gT,V.refs,C.refs,jY]
  ·rw[AZ h] at hst;simp only[jG,nk,jF,kM,kN,dZ,dw,jT] at hst;refine C1 (nM _ _) ?_;refine W3 ?_;rw[hst];refine kH (L (i+1)) 4 (by decide) (i+1) (by omega) rfl rfl ?_ rfl (by omega);simp[iN,gT,V.refs,C.refs,jY]
 ·have hi':i=t.aA.length:=by omega
  refine aW rfl (jV 0 4 _ _) ?_;refine W1 ?_;rw[hi',hTe]
theorem Y7(t:bJ)(n:Nat)(hv:dO t=true)(hsz:t.sz<=1048576)(ha:t.pY=false)(hs:t.bR=false):aF prog 125 [t.v] (.agg [.d (.s []),.d (.ol n (lx (jW t).aj (n+1)))]):=fun S=>by
 have hdz:=bJ.sum t;rw[dH] at hdz;obtain⟨hso,_⟩:=jD hv
 have hfl:lD t=[]:=by unfold lD;rw[ha,hs];rfl
 obtain⟨L,hL⟩:∃L:Nat->Nat,L=fun i=>n+1+iL (iX t++(t.aA.map nN).take i):=⟨_,rfl⟩;obtain⟨T,hT⟩:∃T:Nat->List (List D),T=fun i=>lx (iX t++(t.aA.map nN).take i) (n+1):=⟨_,rfl⟩
 have hT0:T 0=[[.s lC,.ol (n+1) []],[.s t.fName,.ol (n+1+1) []],[.s [],.ol (n+1+1+1) (lx (aO t.bU) (n+1+1+1+1))],[.s [],.ol (n+1+1+1+dU (bH (aO t.bU))) (lx (aO []) (n+1+1+1+dU (bH (aO t.bU))+1))]]:=by
  rw[hT];simp only[List.take_zero,List.append_nil,iX,hfl];exact Gc _ _ _ _ _
 have gM:∀i,(T i).length<=i+4:=fun i=>by
  rw[hT];simp only[gG,List.length_append];have:=List.length_take_le i (t.aA.map nN);simp[iX];omega
 have hTs:∀i (hi:i<t.aA.length),T i++[[.s [],.ol (L i) (lx (nN t.aA[i]).aj (L i+1))]]=T (i+1):=fun i hi=>by
  have:=AU (base:=iX t) (l:=t.aA.map nN) (i:=i) (by rw[List.length_map];exact hi) (n+1);rw[List.getElem_map,A8] at this;rw[hT,hL];exact this
 have hTr:∀i,∀r∈T i,r.length=2:=fun i=>by rw[hT];exact ku
 have hTe:T t.aA.length=lx (jW t).aj (n+1):=by
  rw[hT];simp only
  rw[List.take_of_length_le (by simp)];rfl
 clear hT hL;refine qR (n) 1 (rs:=[.cell 2 37]) zmx func125 ntmps125 rfl rfl rfl rfl rfl ?_;simp -implicitDefEqProofs (disch:=omega) only[go_sem,ha,hs];refine W3 ?_;refine C1 (dx _ (n+1)) ?_;refine C1 (dx _ (n+1+1)) ?_;refine C1 (eD t.bU (by omega) (n+1+1+1)) ?_;refine jS (eD [] (by simp) (n+1+1+1+dU (bH (aO t.bU)))) (.cons (og n _) .nil) ?_;refine W1 ?_;refine W3 ?_;refine kR n 4 2 (T 0) (.inl ?_) (hTr 0) ?_
 ·rw[hT0];rfl
 refine nY (L 0) ?_
 refine aZ (ι:=Nat) zmx rfl [2,4,30,31,32] (fun i=>[.c (.ptr (0,3) 0),.c (.bI (0,4) (T i)),.c (.d (.sl (t.aA.map bA.enc))),.c (.d (.i .i64 t.aA.length)),.c (.d (.i .i64 i))])
  (fun i=>[.seed (L i),.seed 1,.box [.d (.s t.fName),.d (.sl (t.bU.map encS)),.d (.b false),.d (.b false),.d (.sl (t.aA.map bA.enc))],.box [.d (.s []),.bF []],.eG n 2 (T i)]::S)
  (fun i=>i<=t.aA.length) (fun i=>t.aA.length-i) 0 rfl rfl (Nat.zero_le _) ?_
 intro i hi;have hl:=gM i;refine W1 ?_;refine S0 (fun hb h=>?_) fun hb h=>?_
 ·have hi':i<t.aA.length:=by omega
  have hm:=List.getElem_mem hi';have hcz:=zu hm;have hce:=bA.sum t.aA[i];rw[dH] at hce;obtain⟨q1,q2,q3⟩:=rG (hso _ hm);have hst:=hTs i hi';refine W3 ?_;refine C1 (dx _ (L i+1)) ?_;refine C1 (Bw t.aA[i].bC (L i+1+1) (L i+1+1+1) q1 (by omega) (fun u hu=>by have:=zo hu;omega)) ?_;refine C1 (kP _) ?_;refine C1 (lJ t.aA[i].cB (L i+1+1+dU (bH (t.aA[i].bC.map dn))) q2 (by omega)) ?_;refine S0 (fun hb h=>?_) fun hb h=>?_
  ·rw[AY h] at hst;simp only[jG,nk,jF,kM,kN,dZ,dw,jT] at hst;refine C1 (eD t.aA[i].aH (by omega) (L i+1+1+dU (bH (t.aA[i].bC.map dn))+dU (dn t.aA[i].cB))) ?_;refine C1 (Ae t.aA[i].fBody (L i+1+1+dU (bH (t.aA[i].bC.map dn))+dU (dn t.aA[i].cB)+dU (bH (aO t.aA[i].aH))) (q3 h) (by omega)) ?_;refine W3 ?_;refine C1 (kP _) ?_;refine W3 ?_;rw[hst];refine kH (L (i+1)) 4 (by decide) (i+1) (by omega) rfl rfl ?_ rfl (by omega);simp[iN,gT,V.refs,C.refs,jY]
  ·rw[AZ h] at hst;simp only[jG,nk,jF,kM,kN,dZ,dw,jT] at hst;refine C1 (nM _ _) ?_;refine W3 ?_;rw[hst];refine kH (L (i+1)) 4 (by decide) (i+1) (by omega) rfl rfl ?_ rfl (by omega);simp[iN,gT,V.refs,C.refs,jY]
 ·have hi':i=t.aA.length:=by omega
  refine aW rfl (jV 0 4 _ _) ?_;refine W1 ?_;rw[hi',hTe]
theorem CK(t:bJ)(n:Nat)(hv:dO t=true)(hsz:t.sz<=1048576):aF prog 125 [t.v] (.agg [.d (.s []),.d (.ol n (lx (jW t).aj (n+1)))]):=by
 have hb:=(jD hv).2
 cases ha:t.pY with
 |true=>
  cases hs:t.bR with
  |true=>exact absurd ⟨ha,hs⟩ hb
  |false=>exact Y5 t n hv hsz ha hs
 |false=>
  cases hs:t.bR with
  |true=>exact Y6 t n hv hsz ha hs
  |false=>exact Y7 t n hv hsz ha hs
theorem aiS(t:bJ)(hv:dO t=true)(hsz:t.sz<=1048576)(ha:t.pY=true)(hs:t.bR=false):aF prog 130 [t.v] (uO (jW t)).v:=fun S=>by
 have hdz:=bJ.sum t;rw[dH] at hdz;obtain⟨hso,_⟩:=jD hv;have hz:=G9 hv
 have hfl:lD t=[wH]:=by unfold lD;rw[ha,hs];rfl
 obtain⟨T,hT⟩:∃T:Nat->List (List D),T=fun i=>(iX t++(t.aA.map nN).take i).map ah.enc:=⟨_,rfl⟩
 have hT0:T 0=[[.s lC,.sl []],[.s t.fName,.sl []],[.s [],.sl ((aO t.bU).map ah.enc)],[.s [],.sl ((aO [wH]).map ah.enc)]]:=by
  rw[hT];simp only[List.take_zero,List.append_nil,iX,hfl,List.map_cons,List.map_nil,fC,jC]
 have gM:∀i,(T i).length<=i+4:=fun i=>by
  rw[hT];simp only[List.length_map,List.length_append];have:=List.length_take_le i (t.aA.map nN);simp[iX];omega
 have hTs:∀i (hi:i<t.aA.length),T i++[[.s [],.sl ((nN t.aA[i]).aj.map ah.enc)]]=T (i+1):=fun i hi=>by
  have:=jc (base:=iX t) (l:=t.aA.map nN) (i:=i) (by rw[List.length_map];exact hi);rw[List.getElem_map,A8] at this;rw[hT];exact this
 have hTr:∀i,∀r∈T i,r.length=2:=fun i=>by rw[hT];exact gV
 have hTe:T t.aA.length=(jW t).aj.map ah.enc:=by
  rw[hT];simp only
  rw[List.take_of_length_le (by simp)];rfl
 clear hT;refine zcx [.cell 2 37] func130 ntmps130 ?_;refine W1 ?_;refine bD (qL t (by omega)) ?_;simp -implicitDefEqProofs (disch:=omega) only[go_sem,hv,ha,hs];refine W3 ?_;refine C1 (bS _) ?_;refine C1 (bS _) ?_;refine C1 (dY t.bU (by omega)) ?_;refine C1 (dY [wH] (by simp)) ?_;have hE:=fun bV Ω=>jN (T 0) (hTr 0) (by have:=gM 0;omega) bV Ω;simp only[hT0] at hE;refine cK [false] rfl (hE _ _) ?_;refine W1 ?_
 refine aZ (ι:=Nat) zmx rfl [1,2,4,5] (fun i=>[.c (.ptr (0,0) 0),.c (.ptr (0,1) 0),.c (.ptr (0,5) 0),.c (.d (.i .i64 i))])
  (fun i=>[.box [.d (.s t.fName),.d (.sl (t.bU.map encS)),.d (.b true),.d (.b false),.d (.sl (t.aA.map bA.enc))],.box [.d (.s []),.bF []],.tok 1 [[.s wH]],.box [.d (.s []),.bI (0,4) (T 0)],.tok 2 (T i),.box [.d (.s []),.bI (0,4) (T i)]]::S)
  (fun i=>i<=t.aA.length) (fun i=>t.aA.length-i) 0 rfl (by simp only[hT0]<;>(try rfl)) (Nat.zero_le _) ?_
 intro i hi;have hl:=gM i;refine W1 ?_;refine S0 (fun hb h=>?_) fun hb h=>?_
 ·have hi':i<t.aA.length:=by omega
  have hm:=List.getElem_mem hi';have hcz:=zu hm;have hce:=bA.sum t.aA[i];rw[dH] at hce;obtain⟨q1,q2,q3⟩:=rG (hso _ hm);have hst:=hTs i hi';refine W3 ?_;refine C1 (bS _) ?_;refine C1 (DC t.aA[i].bC (by omega) (fun u hu=>by have:=zo hu;omega)) ?_;refine C1 (l7 t.aA[i].cB (by omega)) ?_;refine cK [false] rfl (jN _ (by simp) (by simp) _ _) ?_;refine W1 ?_;refine S0 (fun hb h=>?_) fun hb h=>?_
  ·rw[AY h] at hst;simp only[List.map_cons,List.map_nil,fC,jC,ah.aJ (dn t.aA[i].cB),ah.aJ (fu t.aA[i].fBody)] at hst;refine C1 (dY t.aA[i].aH (by omega)) ?_;refine C1 (uP t.aA[i].fBody (q3 h) (by omega)) ?_;refine W3 ?_;rw[hst];exact bT 6 (by decide) (i+1) (by omega) rfl rfl rfl rfl (by omega)
  ·rw[AZ h] at hst;simp only[List.map_cons,List.map_nil,fC,jC,ah.aJ (dn t.aA[i].cB)] at hst;refine W3 ?_;rw[hst];exact bT 6 (by decide) (i+1) (by omega) rfl rfl rfl rfl (by omega)
 ·have hi':i=t.aA.length:=by omega
  subst hi';rw[hTe];refine C1 (rD true (jW t) (by omega)) ?_;rfl
theorem aiT(t:bJ)(hv:dO t=true)(hsz:t.sz<=1048576)(ha:t.pY=false)(hs:t.bR=true):aF prog 130 [t.v] (uO (jW t)).v:=fun S=>by
 have hdz:=bJ.sum t;rw[dH] at hdz;obtain⟨hso,_⟩:=jD hv;have hz:=G9 hv
 have hfl:lD t=[jf]:=by unfold lD;rw[ha,hs];rfl
 obtain⟨T,hT⟩:∃T:Nat->List (List D),T=fun i=>(iX t++(t.aA.map nN).take i).map ah.enc:=⟨_,rfl⟩
 have hT0:T 0=[[.s lC,.sl []],[.s t.fName,.sl []],[.s [],.sl ((aO t.bU).map ah.enc)],[.s [],.sl ((aO [jf]).map ah.enc)]]:=by
  rw[hT];simp only[List.take_zero,List.append_nil,iX,hfl,List.map_cons,List.map_nil,fC,jC]
 have gM:∀i,(T i).length<=i+4:=fun i=>by
  rw[hT];simp only[List.length_map,List.length_append];have:=List.length_take_le i (t.aA.map nN);simp[iX];omega
 have hTs:∀i (hi:i<t.aA.length),T i++[[.s [],.sl ((nN t.aA[i]).aj.map ah.enc)]]=T (i+1):=fun i hi=>by
  have:=jc (base:=iX t) (l:=t.aA.map nN) (i:=i) (by rw[List.length_map];exact hi);rw[List.getElem_map,A8] at this;rw[hT];exact this
 have hTr:∀i,∀r∈T i,r.length=2:=fun i=>by rw[hT];exact gV
 have hTe:T t.aA.length=(jW t).aj.map ah.enc:=by
  rw[hT];simp only
  rw[List.take_of_length_le (by simp)];rfl
 clear hT;refine zcx [.cell 2 37] func130 ntmps130 ?_;refine W1 ?_;refine bD (qL t (by omega)) ?_;simp -implicitDefEqProofs (disch:=omega) only[go_sem,hv,ha,hs];refine W3 ?_;refine C1 (bS _) ?_;refine C1 (bS _) ?_;refine C1 (dY t.bU (by omega)) ?_;refine C1 (dY [jf] (by simp)) ?_;have hE:=fun bV Ω=>jN (T 0) (hTr 0) (by have:=gM 0;omega) bV Ω;simp only[hT0] at hE;refine cK [false] rfl (hE _ _) ?_;refine W1 ?_
 refine aZ (ι:=Nat) zmx rfl [1,2,4,5] (fun i=>[.c (.ptr (0,0) 0),.c (.ptr (0,1) 0),.c (.ptr (0,5) 0),.c (.d (.i .i64 i))])
  (fun i=>[.box [.d (.s t.fName),.d (.sl (t.bU.map encS)),.d (.b false),.d (.b true),.d (.sl (t.aA.map bA.enc))],.box [.d (.s []),.bF []],.tok 1 [[.s jf]],.box [.d (.s []),.bI (0,4) (T 0)],.tok 2 (T i),.box [.d (.s []),.bI (0,4) (T i)]]::S)
  (fun i=>i<=t.aA.length) (fun i=>t.aA.length-i) 0 rfl (by simp only[hT0]<;>(try rfl)) (Nat.zero_le _) ?_
 intro i hi;have hl:=gM i;refine W1 ?_;refine S0 (fun hb h=>?_) fun hb h=>?_
 ·have hi':i<t.aA.length:=by omega
  have hm:=List.getElem_mem hi';have hcz:=zu hm;have hce:=bA.sum t.aA[i];rw[dH] at hce;obtain⟨q1,q2,q3⟩:=rG (hso _ hm);have hst:=hTs i hi';refine W3 ?_;refine C1 (bS _) ?_;refine C1 (DC t.aA[i].bC (by omega) (fun u hu=>by have:=zo hu;omega)) ?_;refine C1 (l7 t.aA[i].cB (by omega)) ?_;refine cK [false] rfl (jN _ (by simp) (by simp) _ _) ?_;refine W1 ?_;refine S0 (fun hb h=>?_) fun hb h=>?_
  ·rw[AY h] at hst;simp only[List.map_cons,List.map_nil,fC,jC,ah.aJ (dn t.aA[i].cB),ah.aJ (fu t.aA[i].fBody)] at hst;refine C1 (dY t.aA[i].aH (by omega)) ?_;refine C1 (uP t.aA[i].fBody (q3 h) (by omega)) ?_;refine W3 ?_;rw[hst];exact bT 6 (by decide) (i+1) (by omega) rfl rfl rfl rfl (by omega)
  ·rw[AZ h] at hst;simp only[List.map_cons,List.map_nil,fC,jC,ah.aJ (dn t.aA[i].cB)] at hst;refine W3 ?_;rw[hst];exact bT 6 (by decide) (i+1) (by omega) rfl rfl rfl rfl (by omega)
 ·have hi':i=t.aA.length:=by omega
  subst hi';rw[hTe];refine C1 (rD true (jW t) (by omega)) ?_;rfl
theorem aiU(t:bJ)(hv:dO t=true)(hsz:t.sz<=1048576)(ha:t.pY=false)(hs:t.bR=false):aF prog 130 [t.v] (uO (jW t)).v:=fun S=>by
 have hdz:=bJ.sum t;rw[dH] at hdz;obtain⟨hso,_⟩:=jD hv;have hz:=G9 hv
 have hfl:lD t=[]:=by unfold lD;rw[ha,hs];rfl
 obtain⟨T,hT⟩:∃T:Nat->List (List D),T=fun i=>(iX t++(t.aA.map nN).take i).map ah.enc:=⟨_,rfl⟩
 have hT0:T 0=[[.s lC,.sl []],[.s t.fName,.sl []],[.s [],.sl ((aO t.bU).map ah.enc)],[.s [],.sl ((aO []).map ah.enc)]]:=by
  rw[hT];simp only[List.take_zero,List.append_nil,iX,hfl,List.map_cons,List.map_nil,fC,jC]
 have gM:∀i,(T i).length<=i+4:=fun i=>by
  rw[hT];simp only[List.length_map,List.length_append];have:=List.length_take_le i (t.aA.map nN);simp[iX];omega
 have hTs:∀i (hi:i<t.aA.length),T i++[[.s [],.sl ((nN t.aA[i]).aj.map ah.enc)]]=T (i+1):=fun i hi=>by
  have:=jc (base:=iX t) (l:=t.aA.map nN) (i:=i) (by rw[List.length_map];exact hi);rw[List.getElem_map,A8] at this;rw[hT];exact this
 have hTr:∀i,∀r∈T i,r.length=2:=fun i=>by rw[hT];exact gV
 have hTe:T t.aA.length=(jW t).aj.map ah.enc:=by
  rw[hT];simp only
  rw[List.take_of_length_le (by simp)];rfl
 clear hT;refine zcx [.cell 2 37] func130 ntmps130 ?_;refine W1 ?_;refine bD (qL t (by omega)) ?_;simp -implicitDefEqProofs (disch:=omega) only[go_sem,hv,ha,hs];refine W3 ?_;refine C1 (bS _) ?_;refine C1 (bS _) ?_;refine C1 (dY t.bU (by omega)) ?_;refine C1 (dY [] (by simp)) ?_;have hE:=fun bV Ω=>jN (T 0) (hTr 0) (by have:=gM 0;omega) bV Ω;simp only[hT0] at hE;refine cK [false] rfl (hE _ _) ?_;refine W1 ?_
 refine aZ (ι:=Nat) zmx rfl [1,2,4,5] (fun i=>[.c (.ptr (0,0) 0),.c (.ptr (0,1) 0),.c (.ptr (0,4) 0),.c (.d (.i .i64 i))])
  (fun i=>[.box [.d (.s t.fName),.d (.sl (t.bU.map encS)),.d (.b false),.d (.b false),.d (.sl (t.aA.map bA.enc))],.box [.d (.s []),.bF []],.box [.d (.s []),.bI (0,3) (T 0)],.tok 2 (T i),.box [.d (.s []),.bI (0,3) (T i)]]::S)
  (fun i=>i<=t.aA.length) (fun i=>t.aA.length-i) 0 rfl (by simp only[hT0]<;>(try rfl)) (Nat.zero_le _) ?_
 intro i hi;have hl:=gM i;refine W1 ?_;refine S0 (fun hb h=>?_) fun hb h=>?_
 ·have hi':i<t.aA.length:=by omega
  have hm:=List.getElem_mem hi';have hcz:=zu hm;have hce:=bA.sum t.aA[i];rw[dH] at hce;obtain⟨q1,q2,q3⟩:=rG (hso _ hm);have hst:=hTs i hi';refine W3 ?_;refine C1 (bS _) ?_;refine C1 (DC t.aA[i].bC (by omega) (fun u hu=>by have:=zo hu;omega)) ?_;refine C1 (l7 t.aA[i].cB (by omega)) ?_;refine cK [false] rfl (jN _ (by simp) (by simp) _ _) ?_;refine W1 ?_;refine S0 (fun hb h=>?_) fun hb h=>?_
  ·rw[AY h] at hst;simp only[List.map_cons,List.map_nil,fC,jC,ah.aJ (dn t.aA[i].cB),ah.aJ (fu t.aA[i].fBody)] at hst;refine C1 (dY t.aA[i].aH (by omega)) ?_;refine C1 (uP t.aA[i].fBody (q3 h) (by omega)) ?_;refine W3 ?_;rw[hst];exact bT 5 (by decide) (i+1) (by omega) rfl rfl rfl rfl (by omega)
  ·rw[AZ h] at hst;simp only[List.map_cons,List.map_nil,fC,jC,ah.aJ (dn t.aA[i].cB)] at hst;refine W3 ?_;rw[hst];exact bT 5 (by decide) (i+1) (by omega) rfl rfl rfl rfl (by omega)
 ·have hi':i=t.aA.length:=by omega
  subst hi';rw[hTe];refine C1 (rD true (jW t) (by omega)) ?_;rfl
theorem Tp(t:bJ)(hsz:t.sz<=1048576):aF prog 130 [t.v] (yH t).v:=by
 unfold yH
 cases hv:dO t with
 |false=>
  rw[vv];refine aF.less (fun S=> ?_) (AV [] []);refine zcx [.cell 2 37] func130 ntmps130 ?_;refine W1 ?_;refine bD (qL t (by omega)) ?_;simp -implicitDefEqProofs (disch:=omega) only[go_sem,hv]
 |true=>
  rw[vv];have hb:=(jD hv).2
  cases ha:t.pY with
  |true=>
   cases hs:t.bR with
   |true=>exact absurd ⟨ha,hs⟩ hb
   |false=>exact aiS t hv hsz ha hs
  |false=>
   cases hs:t.bR with
   |true=>exact aiT t hv hsz ha hs
   |false=>exact aiU t hv hsz ha hs
end Go.Ab