/-
  SEVERAL TEXTS IN ONE (merged by program): contracts and models, each with its own heading.
-/
import Derived.Test.YtbaefeecjjhhkaaGreatDoorPartOcbM
open Go.Proofs Go.Proofs.Tryz
set_option linter.unusedSimpArgs false
set_option linter.unusedVariables false
set_option maxRecDepth 4000
namespace Go.Ab
noncomputable def mq(t:bE):List (List UInt8):=t.aA.map bg.fName
noncomputable def xE(t:bE):Prop:=t.oD=true/\(t.bI=true\/0<t.aA.length\/0<t.bM.length)
noncomputable def dM(t:bE):Bool:=
 validName t.fName&&(dec (t.bM.length<=4)&&(iN t.bM&&(dec (t.aA.length<=6)&&(!dec (xE t)&&(t.aA.all iK&&dec (mq t).Nodup)))))
theorem bE.sum(x:bE):x.fName.length+(x.bM.length+bf (x.bM.map encS))+(x.aA.length+bf (x.aA.map bg.enc))<=x.sz:=by
 simp only[bE.sz,bE.aQ,dz,bW,D.sz,List.length_map];omega
theorem ze{xs:List bg}{t:bg}(h:t∈xs):t.sz<=bf (xs.map bg.enc):=cB (List.mem_map_of_mem h)
theorem adk{g:bg}(h:iK g=true):validName g.fName=true:=by
 unfold iK at h;rw[Bool.and_eq_true] at h;exact h.1
theorem Zx{t:bE}(h:t.aA.all iK=true):(mq t).all validName=true:=by
 unfold mq;rw[List.all_map];refine List.all_eq_true.2 fun g hg=>adk (List.all_eq_true.1 h g hg)
theorem C9(t:bE)(hsz:t.sz<=4194304):aC prog 107 [t.v] (.c (.d (.b (dM t)))):=fun S=>by
 have hs:=bE.sum t
 have hV:∀s∈t.bM,s.length<=4194304:=fun s h=>by have:=sD h;omega
 have hG:∀g∈t.aA,g.sz<=4194304:=fun g h=>by have:=ze h;omega
 refine(show Hold ((validName t.fName=true/\t.bM.length<=4/\iN t.bM=true/\t.aA.length<=6/\¬xE t)-> ?T)->_ from fun tail=> ?main) ?tp
 case' main=>
  refine zcx [.tmp 2] func107 ntmps107 ?_;refine W1 ?_;refine C2 (iI t.fName (by omega)) ?_;refine S0 (fun hb h=>?_) fun hb h=>?_
  ·exact aH (by unfold dM;rw[h];rfl)
  have h1:=h;refine S0 (fun hb h=>?_) fun hb h=>?_
  ·exact aH (by unfold dM;rw[aK (show ¬t.bM.length<=4 by omega)];simp)
  have h2:=h;refine W3 ?_;refine C2 (pG t.bM (by omega) hV) ?_;refine S0 (fun hb h=>?_) fun hb h=>?_
  ·exact aH (by unfold dM;rw[h];simp)
  have h3:=h;refine S0 (fun hb h=>?_) fun hb h=>?_
  ·exact aH (by unfold dM;rw[aK (show ¬t.aA.length<=6 by omega)];simp)
  have h4:=h;have bad:xE t->V.c (.d (.b false))=V.c (.d (.b (dM t))):=fun h=>aH (by unfold dM;rw[bD h];simp);have pre:¬xE t->(validName t.fName=true/\t.bM.length<=4/\iN t.bM=true/\t.aA.length<=6/\¬xE t):=fun h=>⟨h1,by omega,h3,by omega,h⟩
  repeat' (first|refine S0 (fun hb h=>?_) fun hb h=>?_)
  all_goals first
   |(refine bad ⟨by assumption,?_⟩;first|exact .inl (by assumption)|exact .inr (.inl (by omega))|exact .inr (.inr (by omega)))
   |skip
  all_goals
   have na:¬xE t:=fun x=>by
    obtain⟨x1,x2⟩:=x
    rcases x2 with x2|x2|x2<;>first|omega|simp_all
   refine W3 ?_;refine lQ 3 1 [] rfl (by simp) ?_;refine nP (st':=[.box (t.enc.map .d),.tok 1 []]::S) [3,48,49,50] [.c (.bB (0,1) []),.c (.d (.sl (t.aA.map bg.enc))),.c (.d (.i .i64 t.aA.length)),.c (.d (.i .i64 0))] ?_ ?_ ?_
   ·rfl
   ·first|(refine W1 ?_;done)|(refine W1 ?_;simp[*])
   ·exact tail.out (pre na)
 refine⟨fun hp=> ?_⟩;obtain⟨h1,h2,h3,h4,h5⟩:=hp
 have bad:∀i,∀hi:i<t.aA.length,iK t.aA[i]=false->dM t=false:=fun i hi h=>by
  have:t.aA.all iK=false:=Bool.eq_false_iff.2 fun hx=>by
   rw[List.all_eq_true.1 hx _ (List.getElem_mem hi)] at h;cases h
  unfold dM
  rw[this];simp
 refine aR (ι:=Nat×List (List UInt8)) zmx rfl [3,48,49,50] (fun y=>[.c (.bB (0,1) (y.2.map encS)),.c (.d (.sl (t.aA.map bg.enc))),.c (.d (.i .i64 t.aA.length)),.c (.d (.i .i64 y.1))]) (fun y=>[.box (t.enc.map .d),.tok 1 (y.2.map encS)]::S)
  (fun y=>y.1<=t.aA.length/\y.2=(mq t).take y.1/\∀j,∀hj:j<t.aA.length,j<y.1->iK t.aA[j]=true) (fun y=>t.aA.length-y.1) (0,[]) rfl ?_ ⟨Nat.zero_le _,rfl,fun j _ h=>by simp only at h;omega⟩ ?_
 ·exact Z1
 rintro⟨i,names⟩ ⟨p1,p2,p3⟩;simp only at p1 p2 p3
 have pl:names.length<=t.aA.length:=by rw[p2];simp[mq];omega
 refine W1 ?_;refine S0 (fun hb h=>?_) fun hb h=>?_
 ·have hi:i<t.aA.length:=by omega
  refine W3 ?_;refine C2 (Rn t.aA[i] (hG _ (List.getElem_mem hi))) ?_;refine S0 (fun hb h=>?_) fun hb h=>?_
  ·rw[bad i hi h]
  have k2:=h;refine W3 ?_;rw[show List.map encS names++[[D.s t.aA[i].fName]]=List.map encS (names++[t.aA[i].fName]) by simp[encS]]
  exact bL 2 (by decide) (i+1,names++[t.aA[i].fName]) (by simp only;omega) rfl rfl rfl rfl ⟨by simp only;omega,by simp only;rw[p2,iU (by simpa [mq] using hi)];simp[mq],fun j hj hji=>by
   simp only at hji;by_cases e:j=i
   ·subst e;exact k2
   ·exact p3 j hj (by omega)⟩
 have hi:i=t.aA.length:=by omega
 have hn:names=mq t:=by rw[p2,List.take_of_length_le (by simp[mq];omega)]
 have hall:t.aA.all iK=true:=List.all_eq_true.2 fun c hc=>by
  obtain⟨j,hj,e⟩:=List.getElem_of_mem hc;rw[<-e];exact p3 j hj (by omega)
 refine C2 (qm names (by omega)) ?_;exact aH (by unfold dM;rw[h1,h3,hall,<-hn,bD h2,bD h4,aK h5];simp)
theorem qL(t:bE)(hsz:t.sz<=4194304):aC prog 134 [t.v] (.c (.d (.b (dM t)))):=fun S=>by
 have hs:=bE.sum t
 have hV:∀s∈t.bM,s.length<=4194304:=fun s h=>by have:=sD h;omega
 have hG:∀g∈t.aA,g.sz<=4194304:=fun g h=>by have:=ze h;omega
 have bad:∀i,∀hi:i<t.aA.length,iK t.aA[i]=false->dM t=false:=fun i hi h=>by
  have:t.aA.all iK=false:=Bool.eq_false_iff.2 fun hx=>by
   rw[List.all_eq_true.1 hx _ (List.getElem_mem hi)] at h;cases h
  unfold dM
  rw[this];simp
 have arP:xE t->V.c (.d (.b false))=V.c (.d (.b (dM t))):=fun h=>aH (by unfold dM;rw[bD h];simp);refine zcx [.tmp 2] func134 ntmps134 ?_;refine W1 ?_;refine W3 ?_;refine lQ 3 1 [] rfl (by simp) ?_
 refine aR (ι:=Nat×List (List UInt8)) zmx rfl [1,3,4] (fun y=>[.c (.ptr (0,0) 0),.c (.bB (0,1) (y.2.map encS)),.c (.d (.i .i64 y.1))]) (fun y=>[.box (t.enc.map .d),.tok 1 (y.2.map encS)]::S)
  (fun y=>y.1<=t.aA.length/\y.2=(mq t).take y.1/\∀j,∀hj:j<t.aA.length,j<y.1->iK t.aA[j]=true) (fun y=>t.aA.length-y.1) (0,[]) rfl ?_ ⟨Nat.zero_le _,rfl,fun j _ h=>by simp only at h;omega⟩ ?_
 ·exact Z1
 rintro⟨i,names⟩ ⟨p1,p2,p3⟩;simp only at p1 p2 p3
 have pl:names.length<=t.aA.length:=by rw[p2];simp[mq];omega
 refine W1 ?_;refine S0 (fun hb h=>?_) fun hb h=>?_
 ·have hi:i<t.aA.length:=by omega
  refine W3 ?_;refine C2 (afL t.aA[i] (hG _ (List.getElem_mem hi))) ?_;refine S0 (fun hb h=>?_) fun hb h=>?_
  ·rw[bad i hi h]
  have k2:=h;refine W3 ?_;rw[show List.map encS names++[[D.s t.aA[i].fName]]=List.map encS (names++[t.aA[i].fName]) by simp[encS]]
  exact bV (i+1,names++[t.aA[i].fName]) (by simp only;omega) rfl rfl ⟨by simp only;omega,by simp only;rw[p2,iU (by simpa [mq] using hi)];simp[mq],fun j hj hji=>by
   simp only at hji;by_cases e:j=i
   ·subst e;exact k2
   ·exact p3 j hj (by omega)⟩
 have hi:i=t.aA.length:=by omega
 have hn:names=mq t:=by rw[p2,List.take_of_length_le (by simp[mq];omega)]
 have hall:t.aA.all iK=true:=List.all_eq_true.2 fun c hc=>by
  obtain⟨j,hj,e⟩:=List.getElem_of_mem hc;rw[<-e];exact p3 j hj (by omega)
 have Ob:=Zx hall
 have hnl:∀s∈names,s.length<=4194304:=fun s hm=>by
  rw[hn] at hm;obtain⟨g,hg,e⟩:=List.mem_map.1 hm;have:=hG g hg;have:=bg.sum g;rw[<-e];omega
 have hlen:names.length=t.aA.length:=by rw[hn];simp[mq]
 clear bad p2 p3
 repeat' (first|refine S0 (fun hb h=>?_) fun hb h=>?_)
 all_goals first
  |(refine arP ⟨by assumption,?_⟩;first|exact .inl (by assumption)|exact .inr (.inl (by omega))|exact .inr (.inr (by omega)))
  |skip
 all_goals
  have na:¬xE t:=fun x=>by
   obtain⟨x1,x2⟩:=x
   rcases x2 with x2|x2|x2<;>first|omega|simp_all
  refine W3 ?_;refine C1 (iJ t.fName (by omega)) ?_;refine S0 (fun hb h=>?_) fun hb h=>?_
  ·have h1:=h;refine W3 ?_;refine C2 (mU t.bM 4 (by omega) hV) ?_;refine S0 (fun hb h=>?_) fun hb h=>?_
   ·have h2:=h;rw[Bool.and_eq_true] at h2;have h3:=gq h2.1;refine C2 (mU names 6 (by omega) hnl) ?_;refine aH ?_;unfold dM;rw[h1,h2.2,hall,aK na,bD (show t.bM.length<=4 by omega),hlen];unfold iN;rw[hn,Ob,Bool.and_true];simp only[Bool.true_and,Bool.not_false];congr 1;exact iC ⟨fun h=>by omega,fun h=>by omega⟩
   ·refine aH ?_;unfold dM
    have h2:(dec (t.bM.length<=4)&&iN t.bM)=false:=by
     rw[<-h];congr 1;exact iC ⟨fun h=>by omega,fun h=>by omega⟩
    rw[<-Bool.and_assoc (dec (t.bM.length<=4)),h2];simp
  ·exact aH (by unfold dM;rw[h];rfl)
def tH:List UInt8:=[97,117,116,111]
def jS:List UInt8:=[116,114,97,105,116]
def lW(t:bE):List (List UInt8):=(if t.oD=true then [tH] else [])++(if t.bI=true then [iW] else [])
def nZ(g:bg):aj:=bq ([bF g.fName,bq (g.aY.map bZ),bZ g.bU]++if g.iT=true then [bq (aP g.aF),fu g.fBody] else [])
theorem LX(n:Nat)(es:List (List D)):Less (.c (.d (.ol n es))) (.c (.d (.sl es))):=fun w σ S β v h=>⟨tK h.1,h.2⟩
def iX(t:bE):List aj:=[bF jS,bF t.fName,bq (aP t.bM),bq (aP (lW t))]
def jU(t:bE):aj:=bq (iX t++t.aA.map nZ)
noncomputable def uU(x:bE):aj:=qM (dM x) (jU x)
theorem ajt{x:bE}(h:x.sz<=1048576):(uU x).sz<=1048576:=Nat.le_trans (GH _ _) (by decide)
theorem AZ{g:bg}(h:g.iT=true):(nZ g).ah=[bF g.fName,bq (g.aY.map bZ),bZ g.bU,bq (aP g.aF),fu g.fBody]:=by rw[nZ,if_pos h];rfl
theorem A8{g:bg}(h:g.iT=false):(nZ g).ah=[bF g.fName,bq (g.aY.map bZ),bZ g.bU]:=by rw[nZ,if_neg (by rw[h];decide)];rfl
theorem A9(g:bg):(nZ g).aG=[]:=rfl
theorem rA{g:bg}(h:iK g=true):jg g.aY=true/\formed g.bU=true/\(g.iT=true->iV g.fBody=true):=by
 unfold iK at h;simp only[Bool.and_eq_true] at h;obtain⟨_,_,h1,h2,h3⟩:=h;refine⟨yE h1,vW h2,fun hd=> ?_⟩;rw[if_pos hd,Bool.and_eq_true] at h3;exact Fv h3.2
theorem anS(g:bg)(hok:iK g=true):(nZ g).sz<=48+32*g.sz:=by
 obtain⟨_,_,hb⟩:=rA hok;have h1:=O5 g.aY;have h2:=BS g.bU;have h3:=bg.sum g;rw[dB,Aw] at h3;by_cases hd:g.iT=true
 ·have h4:=KD g.fBody (hb hd);rw[nZ,if_pos hd,jh];simp[cZ,jI,jh,jA,qY];omega
 ·rw[nZ,if_neg hd,jh];simp[cZ,jI,jh,jA,qY];omega
theorem aay:∀l:List bg,(∀g∈l,iK g=true)->cZ (l.map nZ)<=48*l.length+32*bf (l.map bg.enc)
 |[],_=>by simp[cZ]
 |c::l,h=>by
  have h1:=anS c (h c (List.mem_cons_self ..));have h2:=aay l fun g hg=>h g (List.mem_cons_of_mem _ hg);rw[List.map_cons,cZ,List.map_cons,bf,List.length_cons];simp only[bg.sz] at h1;omega
theorem jF{t:bE}(h:dM t=true):(∀g∈t.aA,iK g=true)/\¬(t.oD=true/\t.bI=true):=by
 unfold dM at h;simp only[Bool.and_eq_true,Bool.not_eq_true'] at h;obtain⟨_,_,_,_,h1,h2,_⟩:=h;refine⟨fun g hg=>List.all_eq_true.1 h2 g hg,fun hh=> ?_⟩;rw[bD (show xE t from⟨hh.1,.inl hh.2⟩)] at h1;cases h1
theorem agb(t:bE):(lW t).length<=2/\((lW t).map List.length).sum<=9:=by
 unfold lW;split<;>split<;>simp[tH,iW]
theorem Hf{t:bE}(hok:dM t=true):(jU t).sz<=64+49*t.sz:=by
 have h1:=aay t.aA (jF hok).1;have h2:=agb t;have h3:=bE.sum t;rw[dB] at h3;rw[jU,jh,gM,List.length_append,List.length_map];simp[iX,cZ,jI,jh,jA,qY,jS];omega
theorem Gc(n:Nat)(a b:List UInt8)(w v:List (List UInt8)):lx [bF a,bF b,bq (aP w),bq (aP v)] (n+1)=[[.s a,.ol (n+1) []],[.s b,.ol (n+1+1) []],[.s [],.ol (n+1+1+1) (lx (aP w) (n+1+1+1+1))],[.s [],.ol (n+1+1+1+dQ (bq (aP w))) (lx (aP v) (n+1+1+1+dQ (bq (aP w))+1))]]:=by
 simp only[jK,ny,jJ,kX,kY,dW,bY,jZ]
theorem Zy(t:bE)(n:Nat)(hv:dM t=true)(hsz:t.sz<=1048576)(ha:t.oD=true)(hs:t.bI=false):aC prog 67 [t.v] (.agg [.d (.s []),.d (.ol n (lx (jU t).ah (n+1)))]):=fun S=>by
 have hdz:=bE.sum t;rw[dB] at hdz;obtain⟨hso,_⟩:=jF hv
 have hfl:lW t=[tH]:=by unfold lW;rw[ha,hs];rfl
 obtain⟨L,hL⟩:∃L:Nat->Nat,L=fun i=>n+1+iQ (iX t++(t.aA.map nZ).take i):=⟨_,rfl⟩;obtain⟨T,hT⟩:∃T:Nat->List (List D),T=fun i=>lx (iX t++(t.aA.map nZ).take i) (n+1):=⟨_,rfl⟩
 have hT0:T 0=[[.s jS,.ol (n+1) []],[.s t.fName,.ol (n+1+1) []],[.s [],.ol (n+1+1+1) (lx (aP t.bM) (n+1+1+1+1))],[.s [],.ol (n+1+1+1+dQ (bq (aP t.bM))) (lx (aP [tH]) (n+1+1+1+dQ (bq (aP t.bM))+1))]]:=by
  rw[hT];simp only[List.take_zero,List.append_nil,iX,hfl];exact Gc _ _ _ _ _
 have fP:∀i,(T i).length<=i+4:=fun i=>by
  rw[hT];simp only[gH,List.length_append];have:=List.length_take_le i (t.aA.map nZ);simp[iX];omega
 have hTs:∀i (hi:i<t.aA.length),T i++[[.s [],.ol (L i) (lx (nZ t.aA[i]).ah (L i+1))]]=T (i+1):=fun i hi=>by
  have:=AB (base:=iX t) (l:=t.aA.map nZ) (i:=i) (by rw[List.length_map];exact hi) (n+1);rw[List.getElem_map,A9] at this;rw[hT,hL];exact this
 have hTr:∀i,∀r∈T i,r.length=2:=fun i=>by rw[hT];exact kM
 have hTe:T t.aA.length=lx (jU t).ah (n+1):=by
  rw[hT];simp only
  rw[List.take_of_length_le (by simp)];rfl
 clear hT hL;refine qQ (n) 1 (rs:=[.cell 2 64]) zmx func67 ntmps67 rfl rfl rfl rfl rfl ?_;simp -implicitDefEqProofs (disch:=omega) only[go_sem,ha,hs];refine W3 ?_;refine C1 (cO _ (n+1)) ?_;refine C1 (cO _ (n+1+1)) ?_;refine C1 (dY t.bM (by omega) (n+1+1+1)) ?_;refine jY (dY [tH] (by simp) (n+1+1+1+dQ (bq (aP t.bM)))) (.cons (LX n _) .nil) ?_;refine W1 ?_;refine W3 ?_;refine lD n 4 2 (T 0) (.inl ?_) (hTr 0) ?_
 ·rw[hT0];rfl
 refine om (L 0) ?_
 refine aR (ι:=Nat) zmx rfl [2,4,30,31,32] (fun i=>[.c (.ptr (0,3) 0),.c (.bB (0,4) (T i)),.c (.d (.sl (t.aA.map bg.enc))),.c (.d (.i .i64 t.aA.length)),.c (.d (.i .i64 i))])
  (fun i=>[.seed (L i),.seed 1,.box [.d (.s t.fName),.d (.sl (t.bM.map encS)),.d (.b true),.d (.b false),.d (.sl (t.aA.map bg.enc))],.box [.d (.s []),.bn []],.eu n 2 (T i)]::S)
  (fun i=>i<=t.aA.length) (fun i=>t.aA.length-i) 0 rfl rfl (Nat.zero_le _) ?_
 intro i hi;have hl:=fP i;refine W1 ?_;refine S0 (fun hb h=>?_) fun hb h=>?_
 ·have hi':i<t.aA.length:=by omega
  have hm:=List.getElem_mem hi';have hcz:=ze hm;have hce:=bg.sum t.aA[i];rw[dB] at hce;obtain⟨q1,q2,q3⟩:=rA (hso _ hm);have hst:=hTs i hi';refine W3 ?_;refine C1 (cO _ (L i+1)) ?_;refine C1 (Br t.aA[i].aY (L i+1+1) (L i+1+1+1) q1 (by omega) (fun u hu=>by have:=yZ hu;omega)) ?_;refine C1 (lq _) ?_;refine C1 (lY t.aA[i].bU (L i+1+1+dQ (bq (t.aA[i].aY.map bZ))) q2 (by omega)) ?_;refine S0 (fun hb h=>?_) fun hb h=>?_
  ·rw[AZ h] at hst;simp only[jK,ny,jJ,kX,kY,dW,bY,jZ] at hst;refine C1 (dY t.aA[i].aF (by omega) (L i+1+1+dQ (bq (t.aA[i].aY.map bZ))+dQ (bZ t.aA[i].bU))) ?_;refine C1 (zV t.aA[i].fBody (L i+1+1+dQ (bq (t.aA[i].aY.map bZ))+dQ (bZ t.aA[i].bU)+dQ (bq (aP t.aA[i].aF))) (q3 h) (by omega)) ?_;refine W3 ?_;refine C1 (lq _) ?_;refine W3 ?_;rw[hst];refine kS (L (i+1)) 4 (by decide) (i+1) (by omega) rfl rfl ?_ rfl (by omega);simp[iR,gV,V.refs,C.refs,kr]
  ·rw[A8 h] at hst;simp only[jK,ny,jJ,kX,kY,dW,bY,jZ] at hst;refine C1 (nR _ _) ?_;refine W3 ?_;rw[hst];refine kS (L (i+1)) 4 (by decide) (i+1) (by omega) rfl rfl ?_ rfl (by omega);simp[iR,gV,V.refs,C.refs,kr]
 ·have hi':i=t.aA.length:=by omega
  refine cK rfl (kg 0 4 _ _) ?_;refine W1 ?_;rw[hi',hTe]
theorem Zz(t:bE)(n:Nat)(hv:dM t=true)(hsz:t.sz<=1048576)(ha:t.oD=false)(hs:t.bI=true):aC prog 67 [t.v] (.agg [.d (.s []),.d (.ol n (lx (jU t).ah (n+1)))]):=fun S=>by
 have hdz:=bE.sum t;rw[dB] at hdz;obtain⟨hso,_⟩:=jF hv
 have hfl:lW t=[iW]:=by unfold lW;rw[ha,hs];rfl
 obtain⟨L,hL⟩:∃L:Nat->Nat,L=fun i=>n+1+iQ (iX t++(t.aA.map nZ).take i):=⟨_,rfl⟩;obtain⟨T,hT⟩:∃T:Nat->List (List D),T=fun i=>lx (iX t++(t.aA.map nZ).take i) (n+1):=⟨_,rfl⟩
 have hT0:T 0=[[.s jS,.ol (n+1) []],[.s t.fName,.ol (n+1+1) []],[.s [],.ol (n+1+1+1) (lx (aP t.bM) (n+1+1+1+1))],[.s [],.ol (n+1+1+1+dQ (bq (aP t.bM))) (lx (aP [iW]) (n+1+1+1+dQ (bq (aP t.bM))+1))]]:=by
  rw[hT];simp only[List.take_zero,List.append_nil,iX,hfl];exact Gc _ _ _ _ _
 have fP:∀i,(T i).length<=i+4:=fun i=>by
  rw[hT];simp only[gH,List.length_append];have:=List.length_take_le i (t.aA.map nZ);simp[iX];omega
 have hTs:∀i (hi:i<t.aA.length),T i++[[.s [],.ol (L i) (lx (nZ t.aA[i]).ah (L i+1))]]=T (i+1):=fun i hi=>by
  have:=AB (base:=iX t) (l:=t.aA.map nZ) (i:=i) (by rw[List.length_map];exact hi) (n+1);rw[List.getElem_map,A9] at this;rw[hT,hL];exact this
 have hTr:∀i,∀r∈T i,r.length=2:=fun i=>by rw[hT];exact kM
 have hTe:T t.aA.length=lx (jU t).ah (n+1):=by
  rw[hT];simp only
  rw[List.take_of_length_le (by simp)];rfl
 clear hT hL;refine qQ (n) 1 (rs:=[.cell 2 64]) zmx func67 ntmps67 rfl rfl rfl rfl rfl ?_;simp -implicitDefEqProofs (disch:=omega) only[go_sem,ha,hs];refine W3 ?_;refine C1 (cO _ (n+1)) ?_;refine C1 (cO _ (n+1+1)) ?_;refine C1 (dY t.bM (by omega) (n+1+1+1)) ?_;refine jY (dY [iW] (by simp) (n+1+1+1+dQ (bq (aP t.bM)))) (.cons (LX n _) .nil) ?_;refine W1 ?_;refine W3 ?_;refine lD n 4 2 (T 0) (.inl ?_) (hTr 0) ?_
 ·rw[hT0];rfl
 refine om (L 0) ?_
 refine aR (ι:=Nat) zmx rfl [2,4,30,31,32] (fun i=>[.c (.ptr (0,3) 0),.c (.bB (0,4) (T i)),.c (.d (.sl (t.aA.map bg.enc))),.c (.d (.i .i64 t.aA.length)),.c (.d (.i .i64 i))])
  (fun i=>[.seed (L i),.seed 1,.box [.d (.s t.fName),.d (.sl (t.bM.map encS)),.d (.b false),.d (.b true),.d (.sl (t.aA.map bg.enc))],.box [.d (.s []),.bn []],.eu n 2 (T i)]::S)
  (fun i=>i<=t.aA.length) (fun i=>t.aA.length-i) 0 rfl rfl (Nat.zero_le _) ?_
 intro i hi;have hl:=fP i;refine W1 ?_;refine S0 (fun hb h=>?_) fun hb h=>?_
 ·have hi':i<t.aA.length:=by omega
  have hm:=List.getElem_mem hi';have hcz:=ze hm;have hce:=bg.sum t.aA[i];rw[dB] at hce;obtain⟨q1,q2,q3⟩:=rA (hso _ hm);have hst:=hTs i hi';refine W3 ?_;refine C1 (cO _ (L i+1)) ?_;refine C1 (Br t.aA[i].aY (L i+1+1) (L i+1+1+1) q1 (by omega) (fun u hu=>by have:=yZ hu;omega)) ?_;refine C1 (lq _) ?_;refine C1 (lY t.aA[i].bU (L i+1+1+dQ (bq (t.aA[i].aY.map bZ))) q2 (by omega)) ?_;refine S0 (fun hb h=>?_) fun hb h=>?_
  ·rw[AZ h] at hst;simp only[jK,ny,jJ,kX,kY,dW,bY,jZ] at hst;refine C1 (dY t.aA[i].aF (by omega) (L i+1+1+dQ (bq (t.aA[i].aY.map bZ))+dQ (bZ t.aA[i].bU))) ?_;refine C1 (zV t.aA[i].fBody (L i+1+1+dQ (bq (t.aA[i].aY.map bZ))+dQ (bZ t.aA[i].bU)+dQ (bq (aP t.aA[i].aF))) (q3 h) (by omega)) ?_;refine W3 ?_;refine C1 (lq _) ?_;refine W3 ?_;rw[hst];refine kS (L (i+1)) 4 (by decide) (i+1) (by omega) rfl rfl ?_ rfl (by omega);simp[iR,gV,V.refs,C.refs,kr]
  ·rw[A8 h] at hst;simp only[jK,ny,jJ,kX,kY,dW,bY,jZ] at hst;refine C1 (nR _ _) ?_;refine W3 ?_;rw[hst];refine kS (L (i+1)) 4 (by decide) (i+1) (by omega) rfl rfl ?_ rfl (by omega);simp[iR,gV,V.refs,C.refs,kr]
 ·have hi':i=t.aA.length:=by omega
  refine cK rfl (kg 0 4 _ _) ?_;refine W1 ?_;rw[hi',hTe]
theorem ZA(t:bE)(n:Nat)(hv:dM t=true)(hsz:t.sz<=1048576)(ha:t.oD=false)(hs:t.bI=false):aC prog 67 [t.v] (.agg [.d (.s []),.d (.ol n (lx (jU t).ah (n+1)))]):=fun S=>by
 have hdz:=bE.sum t;rw[dB] at hdz;obtain⟨hso,_⟩:=jF hv
 have hfl:lW t=[]:=by unfold lW;rw[ha,hs];rfl
 obtain⟨L,hL⟩:∃L:Nat->Nat,L=fun i=>n+1+iQ (iX t++(t.aA.map nZ).take i):=⟨_,rfl⟩;obtain⟨T,hT⟩:∃T:Nat->List (List D),T=fun i=>lx (iX t++(t.aA.map nZ).take i) (n+1):=⟨_,rfl⟩
 have hT0:T 0=[[.s jS,.ol (n+1) []],[.s t.fName,.ol (n+1+1) []],[.s [],.ol (n+1+1+1) (lx (aP t.bM) (n+1+1+1+1))],[.s [],.ol (n+1+1+1+dQ (bq (aP t.bM))) (lx (aP []) (n+1+1+1+dQ (bq (aP t.bM))+1))]]:=by
  rw[hT];simp only[List.take_zero,List.append_nil,iX,hfl];exact Gc _ _ _ _ _
 have fP:∀i,(T i).length<=i+4:=fun i=>by
  rw[hT];simp only[gH,List.length_append];have:=List.length_take_le i (t.aA.map nZ);simp[iX];omega
 have hTs:∀i (hi:i<t.aA.length),T i++[[.s [],.ol (L i) (lx (nZ t.aA[i]).ah (L i+1))]]=T (i+1):=fun i hi=>by
  have:=AB (base:=iX t) (l:=t.aA.map nZ) (i:=i) (by rw[List.length_map];exact hi) (n+1);rw[List.getElem_map,A9] at this;rw[hT,hL];exact this
 have hTr:∀i,∀r∈T i,r.length=2:=fun i=>by rw[hT];exact kM
 have hTe:T t.aA.length=lx (jU t).ah (n+1):=by
  rw[hT];simp only
  rw[List.take_of_length_le (by simp)];rfl
 clear hT hL;refine qQ (n) 1 (rs:=[.cell 2 64]) zmx func67 ntmps67 rfl rfl rfl rfl rfl ?_;simp -implicitDefEqProofs (disch:=omega) only[go_sem,ha,hs];refine W3 ?_;refine C1 (cO _ (n+1)) ?_;refine C1 (cO _ (n+1+1)) ?_;refine C1 (dY t.bM (by omega) (n+1+1+1)) ?_;refine jY (dY [] (by simp) (n+1+1+1+dQ (bq (aP t.bM)))) (.cons (oq n _) .nil) ?_;refine W1 ?_;refine W3 ?_;refine lD n 4 2 (T 0) (.inl ?_) (hTr 0) ?_
 ·rw[hT0];rfl
 refine om (L 0) ?_
 refine aR (ι:=Nat) zmx rfl [2,4,30,31,32] (fun i=>[.c (.ptr (0,3) 0),.c (.bB (0,4) (T i)),.c (.d (.sl (t.aA.map bg.enc))),.c (.d (.i .i64 t.aA.length)),.c (.d (.i .i64 i))])
  (fun i=>[.seed (L i),.seed 1,.box [.d (.s t.fName),.d (.sl (t.bM.map encS)),.d (.b false),.d (.b false),.d (.sl (t.aA.map bg.enc))],.box [.d (.s []),.bn []],.eu n 2 (T i)]::S)
  (fun i=>i<=t.aA.length) (fun i=>t.aA.length-i) 0 rfl rfl (Nat.zero_le _) ?_
 intro i hi;have hl:=fP i;refine W1 ?_;refine S0 (fun hb h=>?_) fun hb h=>?_
 ·have hi':i<t.aA.length:=by omega
  have hm:=List.getElem_mem hi';have hcz:=ze hm;have hce:=bg.sum t.aA[i];rw[dB] at hce;obtain⟨q1,q2,q3⟩:=rA (hso _ hm);have hst:=hTs i hi';refine W3 ?_;refine C1 (cO _ (L i+1)) ?_;refine C1 (Br t.aA[i].aY (L i+1+1) (L i+1+1+1) q1 (by omega) (fun u hu=>by have:=yZ hu;omega)) ?_;refine C1 (lq _) ?_;refine C1 (lY t.aA[i].bU (L i+1+1+dQ (bq (t.aA[i].aY.map bZ))) q2 (by omega)) ?_;refine S0 (fun hb h=>?_) fun hb h=>?_
  ·rw[AZ h] at hst;simp only[jK,ny,jJ,kX,kY,dW,bY,jZ] at hst;refine C1 (dY t.aA[i].aF (by omega) (L i+1+1+dQ (bq (t.aA[i].aY.map bZ))+dQ (bZ t.aA[i].bU))) ?_;refine C1 (zV t.aA[i].fBody (L i+1+1+dQ (bq (t.aA[i].aY.map bZ))+dQ (bZ t.aA[i].bU)+dQ (bq (aP t.aA[i].aF))) (q3 h) (by omega)) ?_;refine W3 ?_;refine C1 (lq _) ?_;refine W3 ?_;rw[hst];refine kS (L (i+1)) 4 (by decide) (i+1) (by omega) rfl rfl ?_ rfl (by omega);simp[iR,gV,V.refs,C.refs,kr]
  ·rw[A8 h] at hst;simp only[jK,ny,jJ,kX,kY,dW,bY,jZ] at hst;refine C1 (nR _ _) ?_;refine W3 ?_;rw[hst];refine kS (L (i+1)) 4 (by decide) (i+1) (by omega) rfl rfl ?_ rfl (by omega);simp[iR,gV,V.refs,C.refs,kr]
 ·have hi':i=t.aA.length:=by omega
  refine cK rfl (kg 0 4 _ _) ?_;refine W1 ?_;rw[hi',hTe]
theorem CK(t:bE)(n:Nat)(hv:dM t=true)(hsz:t.sz<=1048576):aC prog 67 [t.v] (.agg [.d (.s []),.d (.ol n (lx (jU t).ah (n+1)))]):=by
 have hb:=(jF hv).2
 cases ha:t.oD with
 |true=>
  cases hs:t.bI with
  |true=>exact absurd ⟨ha,hs⟩ hb
  |false=>exact Zy t n hv hsz ha hs
 |false=>
  cases hs:t.bI with
  |true=>exact Zz t n hv hsz ha hs
  |false=>exact ZA t n hv hsz ha hs
theorem aju(t:bE)(hv:dM t=true)(hsz:t.sz<=1048576)(ha:t.oD=true)(hs:t.bI=false):aC prog 81 [t.v] (sI (jU t)).v:=fun S=>by
 have hdz:=bE.sum t;rw[dB] at hdz;obtain⟨hso,_⟩:=jF hv;have hz:=Hf hv
 have hfl:lW t=[tH]:=by unfold lW;rw[ha,hs];rfl
 obtain⟨T,hT⟩:∃T:Nat->List (List D),T=fun i=>(iX t++(t.aA.map nZ).take i).map aj.enc:=⟨_,rfl⟩
 have hT0:T 0=[[.s jS,.sl []],[.s t.fName,.sl []],[.s [],.sl ((aP t.bM).map aj.enc)],[.s [],.sl ((aP [tH]).map aj.enc)]]:=by
  rw[hT];simp only[List.take_zero,List.append_nil,iX,hfl,List.map_cons,List.map_nil,fB,jE]
 have fP:∀i,(T i).length<=i+4:=fun i=>by
  rw[hT];simp only[List.length_map,List.length_append];have:=List.length_take_le i (t.aA.map nZ);simp[iX];omega
 have hTs:∀i (hi:i<t.aA.length),T i++[[.s [],.sl ((nZ t.aA[i]).ah.map aj.enc)]]=T (i+1):=fun i hi=>by
  have:=ji (base:=iX t) (l:=t.aA.map nZ) (i:=i) (by rw[List.length_map];exact hi);rw[List.getElem_map,A9] at this;rw[hT];exact this
 have hTr:∀i,∀r∈T i,r.length=2:=fun i=>by rw[hT];exact gJ
 have hTe:T t.aA.length=(jU t).ah.map aj.enc:=by
  rw[hT];simp only
  rw[List.take_of_length_le (by simp)];rfl
 clear hT;refine zcx [.cell 2 64] func81 ntmps81 ?_;refine W1 ?_;refine aX (qL t (by omega)) ?_;simp -implicitDefEqProofs (disch:=omega) only[go_sem,hv,ha,hs];refine W3 ?_;refine C1 (bN _) ?_;refine C1 (bN _) ?_;refine C1 (dU t.bM (by omega)) ?_;refine C1 (dU [tH] (by simp)) ?_;have hE:=fun bP Ω=>jR (T 0) (hTr 0) (by have:=fP 0;omega) bP Ω;simp only[hT0] at hE;refine mQ [false] rfl (hE _ _) ?_;refine W1 ?_
 refine aR (ι:=Nat) zmx rfl [1,2,4,5] (fun i=>[.c (.ptr (0,0) 0),.c (.ptr (0,1) 0),.c (.ptr (0,5) 0),.c (.d (.i .i64 i))])
  (fun i=>[.box [.d (.s t.fName),.d (.sl (t.bM.map encS)),.d (.b true),.d (.b false),.d (.sl (t.aA.map bg.enc))],.box [.d (.s []),.bn []],.tok 1 [[.s tH]],.box [.d (.s []),.bB (0,4) (T 0)],.tok 2 (T i),.box [.d (.s []),.bB (0,4) (T i)]]::S)
  (fun i=>i<=t.aA.length) (fun i=>t.aA.length-i) 0 rfl (by simp only[hT0]<;>(try rfl)) (Nat.zero_le _) ?_
 intro i hi;have hl:=fP i;refine W1 ?_;refine S0 (fun hb h=>?_) fun hb h=>?_
 ·have hi':i<t.aA.length:=by omega
  have hm:=List.getElem_mem hi';have hcz:=ze hm;have hce:=bg.sum t.aA[i];rw[dB] at hce;obtain⟨q1,q2,q3⟩:=rA (hso _ hm);have hst:=hTs i hi';refine W3 ?_;refine C1 (bN _) ?_;refine C1 (Du t.aA[i].aY (by omega) (fun u hu=>by have:=yZ hu;omega)) ?_;refine C1 (mG t.aA[i].bU (by omega)) ?_;refine mQ [false] rfl (jR _ (by simp) (by simp) _ _) ?_;refine W1 ?_;refine S0 (fun hb h=>?_) fun hb h=>?_
  ·rw[AZ h] at hst;simp only[List.map_cons,List.map_nil,fB,jE,aj.aQ (bZ t.aA[i].bU),aj.aQ (fu t.aA[i].fBody)] at hst;refine C1 (dU t.aA[i].aF (by omega)) ?_;refine C1 (uy t.aA[i].fBody (q3 h) (by omega)) ?_;refine W3 ?_;rw[hst];exact bL 6 (by decide) (i+1) (by omega) rfl rfl rfl rfl (by omega)
  ·rw[A8 h] at hst;simp only[List.map_cons,List.map_nil,fB,jE,aj.aQ (bZ t.aA[i].bU)] at hst;refine W3 ?_;rw[hst];exact bL 6 (by decide) (i+1) (by omega) rfl rfl rfl rfl (by omega)
 ·have hi':i=t.aA.length:=by omega
  subst hi';rw[hTe];refine C1 (q8 true (jU t) (by omega)) ?_;rfl
theorem ajv(t:bE)(hv:dM t=true)(hsz:t.sz<=1048576)(ha:t.oD=false)(hs:t.bI=true):aC prog 81 [t.v] (sI (jU t)).v:=fun S=>by
 have hdz:=bE.sum t;rw[dB] at hdz;obtain⟨hso,_⟩:=jF hv;have hz:=Hf hv
 have hfl:lW t=[iW]:=by unfold lW;rw[ha,hs];rfl
 obtain⟨T,hT⟩:∃T:Nat->List (List D),T=fun i=>(iX t++(t.aA.map nZ).take i).map aj.enc:=⟨_,rfl⟩
 have hT0:T 0=[[.s jS,.sl []],[.s t.fName,.sl []],[.s [],.sl ((aP t.bM).map aj.enc)],[.s [],.sl ((aP [iW]).map aj.enc)]]:=by
  rw[hT];simp only[List.take_zero,List.append_nil,iX,hfl,List.map_cons,List.map_nil,fB,jE]
 have fP:∀i,(T i).length<=i+4:=fun i=>by
  rw[hT];simp only[List.length_map,List.length_append];have:=List.length_take_le i (t.aA.map nZ);simp[iX];omega
 have hTs:∀i (hi:i<t.aA.length),T i++[[.s [],.sl ((nZ t.aA[i]).ah.map aj.enc)]]=T (i+1):=fun i hi=>by
  have:=ji (base:=iX t) (l:=t.aA.map nZ) (i:=i) (by rw[List.length_map];exact hi);rw[List.getElem_map,A9] at this;rw[hT];exact this
 have hTr:∀i,∀r∈T i,r.length=2:=fun i=>by rw[hT];exact gJ
 have hTe:T t.aA.length=(jU t).ah.map aj.enc:=by
  rw[hT];simp only
  rw[List.take_of_length_le (by simp)];rfl
 clear hT;refine zcx [.cell 2 64] func81 ntmps81 ?_;refine W1 ?_;refine aX (qL t (by omega)) ?_;simp -implicitDefEqProofs (disch:=omega) only[go_sem,hv,ha,hs];refine W3 ?_;refine C1 (bN _) ?_;refine C1 (bN _) ?_;refine C1 (dU t.bM (by omega)) ?_;refine C1 (dU [iW] (by simp)) ?_;have hE:=fun bP Ω=>jR (T 0) (hTr 0) (by have:=fP 0;omega) bP Ω;simp only[hT0] at hE;refine mQ [false] rfl (hE _ _) ?_;refine W1 ?_
 refine aR (ι:=Nat) zmx rfl [1,2,4,5] (fun i=>[.c (.ptr (0,0) 0),.c (.ptr (0,1) 0),.c (.ptr (0,5) 0),.c (.d (.i .i64 i))])
  (fun i=>[.box [.d (.s t.fName),.d (.sl (t.bM.map encS)),.d (.b false),.d (.b true),.d (.sl (t.aA.map bg.enc))],.box [.d (.s []),.bn []],.tok 1 [[.s iW]],.box [.d (.s []),.bB (0,4) (T 0)],.tok 2 (T i),.box [.d (.s []),.bB (0,4) (T i)]]::S)
  (fun i=>i<=t.aA.length) (fun i=>t.aA.length-i) 0 rfl (by simp only[hT0]<;>(try rfl)) (Nat.zero_le _) ?_
 intro i hi;have hl:=fP i;refine W1 ?_;refine S0 (fun hb h=>?_) fun hb h=>?_
 ·have hi':i<t.aA.length:=by omega
  have hm:=List.getElem_mem hi';have hcz:=ze hm;have hce:=bg.sum t.aA[i];rw[dB] at hce;obtain⟨q1,q2,q3⟩:=rA (hso _ hm);have hst:=hTs i hi';refine W3 ?_;refine C1 (bN _) ?_;refine C1 (Du t.aA[i].aY (by omega) (fun u hu=>by have:=yZ hu;omega)) ?_;refine C1 (mG t.aA[i].bU (by omega)) ?_;refine mQ [false] rfl (jR _ (by simp) (by simp) _ _) ?_;refine W1 ?_;refine S0 (fun hb h=>?_) fun hb h=>?_
  ·rw[AZ h] at hst;simp only[List.map_cons,List.map_nil,fB,jE,aj.aQ (bZ t.aA[i].bU),aj.aQ (fu t.aA[i].fBody)] at hst;refine C1 (dU t.aA[i].aF (by omega)) ?_;refine C1 (uy t.aA[i].fBody (q3 h) (by omega)) ?_;refine W3 ?_;rw[hst];exact bL 6 (by decide) (i+1) (by omega) rfl rfl rfl rfl (by omega)
  ·rw[A8 h] at hst;simp only[List.map_cons,List.map_nil,fB,jE,aj.aQ (bZ t.aA[i].bU)] at hst;refine W3 ?_;rw[hst];exact bL 6 (by decide) (i+1) (by omega) rfl rfl rfl rfl (by omega)
 ·have hi':i=t.aA.length:=by omega
  subst hi';rw[hTe];refine C1 (q8 true (jU t) (by omega)) ?_;rfl
theorem ajw(t:bE)(hv:dM t=true)(hsz:t.sz<=1048576)(ha:t.oD=false)(hs:t.bI=false):aC prog 81 [t.v] (sI (jU t)).v:=fun S=>by
 have hdz:=bE.sum t;rw[dB] at hdz;obtain⟨hso,_⟩:=jF hv;have hz:=Hf hv
 have hfl:lW t=[]:=by unfold lW;rw[ha,hs];rfl
 obtain⟨T,hT⟩:∃T:Nat->List (List D),T=fun i=>(iX t++(t.aA.map nZ).take i).map aj.enc:=⟨_,rfl⟩
 have hT0:T 0=[[.s jS,.sl []],[.s t.fName,.sl []],[.s [],.sl ((aP t.bM).map aj.enc)],[.s [],.sl ((aP []).map aj.enc)]]:=by
  rw[hT];simp only[List.take_zero,List.append_nil,iX,hfl,List.map_cons,List.map_nil,fB,jE]
 have fP:∀i,(T i).length<=i+4:=fun i=>by
  rw[hT];simp only[List.length_map,List.length_append];have:=List.length_take_le i (t.aA.map nZ);simp[iX];omega
 have hTs:∀i (hi:i<t.aA.length),T i++[[.s [],.sl ((nZ t.aA[i]).ah.map aj.enc)]]=T (i+1):=fun i hi=>by
  have:=ji (base:=iX t) (l:=t.aA.map nZ) (i:=i) (by rw[List.length_map];exact hi);rw[List.getElem_map,A9] at this;rw[hT];exact this
 have hTr:∀i,∀r∈T i,r.length=2:=fun i=>by rw[hT];exact gJ
 have hTe:T t.aA.length=(jU t).ah.map aj.enc:=by
  rw[hT];simp only
  rw[List.take_of_length_le (by simp)];rfl
 clear hT;refine zcx [.cell 2 64] func81 ntmps81 ?_;refine W1 ?_;refine aX (qL t (by omega)) ?_;simp -implicitDefEqProofs (disch:=omega) only[go_sem,hv,ha,hs];refine W3 ?_;refine C1 (bN _) ?_;refine C1 (bN _) ?_;refine C1 (dU t.bM (by omega)) ?_;refine C1 (dU [] (by simp)) ?_;have hE:=fun bP Ω=>jR (T 0) (hTr 0) (by have:=fP 0;omega) bP Ω;simp only[hT0] at hE;refine mQ [false] rfl (hE _ _) ?_;refine W1 ?_
 refine aR (ι:=Nat) zmx rfl [1,2,4,5] (fun i=>[.c (.ptr (0,0) 0),.c (.ptr (0,1) 0),.c (.ptr (0,4) 0),.c (.d (.i .i64 i))])
  (fun i=>[.box [.d (.s t.fName),.d (.sl (t.bM.map encS)),.d (.b false),.d (.b false),.d (.sl (t.aA.map bg.enc))],.box [.d (.s []),.bn []],.box [.d (.s []),.bB (0,3) (T 0)],.tok 2 (T i),.box [.d (.s []),.bB (0,3) (T i)]]::S)
  (fun i=>i<=t.aA.length) (fun i=>t.aA.length-i) 0 rfl (by simp only[hT0]<;>(try rfl)) (Nat.zero_le _) ?_
 intro i hi;have hl:=fP i;refine W1 ?_;refine S0 (fun hb h=>?_) fun hb h=>?_
 ·have hi':i<t.aA.length:=by omega
  have hm:=List.getElem_mem hi';have hcz:=ze hm;have hce:=bg.sum t.aA[i];rw[dB] at hce;obtain⟨q1,q2,q3⟩:=rA (hso _ hm);have hst:=hTs i hi';refine W3 ?_;refine C1 (bN _) ?_;refine C1 (Du t.aA[i].aY (by omega) (fun u hu=>by have:=yZ hu;omega)) ?_;refine C1 (mG t.aA[i].bU (by omega)) ?_;refine mQ [false] rfl (jR _ (by simp) (by simp) _ _) ?_;refine W1 ?_;refine S0 (fun hb h=>?_) fun hb h=>?_
  ·rw[AZ h] at hst;simp only[List.map_cons,List.map_nil,fB,jE,aj.aQ (bZ t.aA[i].bU),aj.aQ (fu t.aA[i].fBody)] at hst;refine C1 (dU t.aA[i].aF (by omega)) ?_;refine C1 (uy t.aA[i].fBody (q3 h) (by omega)) ?_;refine W3 ?_;rw[hst];exact bL 5 (by decide) (i+1) (by omega) rfl rfl rfl rfl (by omega)
  ·rw[A8 h] at hst;simp only[List.map_cons,List.map_nil,fB,jE,aj.aQ (bZ t.aA[i].bU)] at hst;refine W3 ?_;rw[hst];exact bL 5 (by decide) (i+1) (by omega) rfl rfl rfl rfl (by omega)
 ·have hi':i=t.aA.length:=by omega
  subst hi';rw[hTe];refine C1 (q8 true (jU t) (by omega)) ?_;rfl
theorem KW(t:bE)(hsz:t.sz<=1048576):aC prog 81 [t.v] (uU t).v:=by
 unfold uU
 cases hv:dM t with
 |false=>
  rw[qM];refine aC.less (fun S=> ?_) (AJ [] []);refine zcx [.cell 2 64] func81 ntmps81 ?_;refine W1 ?_;refine aX (qL t (by omega)) ?_;simp -implicitDefEqProofs (disch:=omega) only[go_sem,hv]
 |true=>
  rw[qM];have hb:=(jF hv).2
  cases ha:t.oD with
  |true=>
   cases hs:t.bI with
   |true=>exact absurd ⟨ha,hs⟩ hb
   |false=>exact aju t hv hsz ha hs
  |false=>
   cases hs:t.bI with
   |true=>exact ajv t hv hsz ha hs
   |false=>exact ajw t hv hsz ha hs
end Go.Ab