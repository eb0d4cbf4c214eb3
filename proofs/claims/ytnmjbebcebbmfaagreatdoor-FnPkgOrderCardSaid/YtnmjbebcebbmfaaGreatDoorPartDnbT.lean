/-
  SEVERAL TEXTS IN ONE (merged by program): contracts and models, each with its own heading.
-/
import Derived.Test.YtnmjbebcebbmfaaGreatDoorPartDnbQ
open Go.Proofs Go.Proofs.Tryz
set_option linter.unusedSimpArgs false
set_option linter.unusedVariables false
set_option maxRecDepth 4000
namespace Go.Ab
noncomputable def mR(t:bI):List (List UInt8):=t.aA.map bg.fName
noncomputable def zo(t:bI):Prop:=t.pR=true/\(t.bP=true\/0<t.aA.length\/0<t.bU.length)
noncomputable def dW(t:bI):Bool:=
 validName t.fName&&(dec (t.bU.length<=4)&&(je t.bU&&(dec (t.aA.length<=6)&&(!dec (zo t)&&(t.aA.all iZ&&dec (mR t).Nodup)))))
theorem bI.sum(x:bI):x.fName.length+(x.bU.length+aS (x.bU.map encS))+(x.aA.length+aS (x.aA.map bg.enc))<=x.sz:=by
 simp only[bI.sz,bI.aC,bX,bT,D.sz,ab];omega
theorem AR{xs:List bg}{t:bg}(h:t∈xs):t.sz<=aS (xs.map bg.enc):=dM (be h)
theorem afC{g:bg}(h:iZ g=true):validName g.fName=true:=by
 unfold iZ at h;rw[ai] at h;exact h.1
theorem abS{t:bI}(h:t.aA.all iZ=true):(mR t).all validName=true:=by
 unfold mR;rw[List.all_map];refine az.2 fun g hg=>afC (az.1 h g hg)
theorem EZ(t:bI)(hsz:t.sz<=4194304):aD prog 34 [t.v] (.c (.d (.b (dW t)))):=fun S=>by
 have hs:=bI.sum t
 have hV:∀s∈t.bU,s.length<=4194304:=fun s h=>by have:=uO h;omega
 have hG:∀g∈t.aA,g.sz<=4194304:=fun g h=>by have:=AR h;omega
 refine(show Hold ((validName t.fName=true/\t.bU.length<=4/\je t.bU=true/\t.aA.length<=6/\¬zo t)-> ?T)->_ from fun tail=> ?main) ?tp
 case' main=>
  refine zcx [.tmp 2] func34 ntmps34 ?_;refine W1 ?_;refine C2 (iU t.fName gA) ?_;refine S0 (fun hb h=>?_) fun hb h=>?_
  ·exact aK (by unfold dW;rw[h];rfl)
  have h1:=h;refine S0 (fun hb h=>?_) fun hb h=>?_
  ·exact aK (by unfold dW;rw[aO (show ¬t.bU.length<=4 by omega)];simp)
  have h2:=h;refine W3 ?_;refine C2 (qB t.bU gA hV) ?_;refine S0 (fun hb h=>?_) fun hb h=>?_
  ·exact aK (by unfold dW;rw[h];simp)
  have h3:=h;refine S0 (fun hb h=>?_) fun hb h=>?_
  ·exact aK (by unfold dW;rw[aO (show ¬t.aA.length<=6 by omega)];simp)
  have h4:=h;have bad:zo t->V.c (.d (.b false))=V.c (.d (.b (dW t))):=fun h=>aK (by unfold dW;rw[bK h];simp);have pre:¬zo t->(validName t.fName=true/\t.bU.length<=4/\je t.bU=true/\t.aA.length<=6/\¬zo t):=fun h=>⟨h1,gA,h3,gA,h⟩
  repeat' (first|refine S0 (fun hb h=>?_) fun hb h=>?_)
  all_goals first
   |(refine bad ⟨by assumption,?_⟩;first|exact .inl (by assumption)|exact .inr (.inl gA)|exact .inr (.inr gA))
   |skip
  all_goals
   have na:¬zo t:=fun x=>by
    obtain⟨x1,x2⟩:=x
    rcases x2 with x2|x2|x2<;>first|omega|simp_all
   refine W3 ?_;refine nu 3 1 [] rfl gL ?_;refine oD (st':=[.box (t.enc.map .d),.tok 1 []]::S) [3,48,49,50] [.c (.bJ (0,1) []),.c (.d (.sl (t.aA.map bg.enc))),.c (.d (.i .i64 t.aA.length)),.c (.d (.i .i64 0))] ?_ ?_ ?_
   ·rfl
   ·first|(refine W1 ?_;done)|(refine W1 ?_;simp[*])
   ·exact tail.out (pre na)
 refine⟨fun hp=> ?_⟩;obtain⟨h1,h2,h3,h4,h5⟩:=hp
 have bad:∀i,∀hi:i<t.aA.length,iZ t.aA[i]=false->dW t=false:=fun i hi h=>by
  have:t.aA.all iZ=false:=eX.2 fun hx=>by
   rw[az.1 hx _ (ac hi)] at h;cases h
  unfold dW
  rw[this];simp
 refine aZ (ι:=Nat×List (List UInt8)) zmx rfl [3,48,49,50] (fun y=>[.c (.bJ (0,1) (y.2.map encS)),.c (.d (.sl (t.aA.map bg.enc))),.c (.d (.i .i64 t.aA.length)),.c (.d (.i .i64 y.1))]) (fun y=>[.box (t.enc.map .d),.tok 1 (y.2.map encS)]::S)
  (fun y=>y.1<=t.aA.length/\y.2=(mR t).take y.1/\∀j,∀hj:j<t.aA.length,j<y.1->iZ t.aA[j]=true) (fun y=>t.aA.length-y.1) (0,[]) rfl ?_ ⟨an _,rfl,fun j _ h=>by simp only at h;omega⟩ ?_
 ·exact Z1
 rintro⟨i,names⟩ ⟨p1,p2,p3⟩;simp only at p1 p2 p3
 have pl:names.length<=t.aA.length:=by rw[p2];simp[mR];omega
 refine W1 ?_;refine S0 (fun hb h=>?_) fun hb h=>?_
 ·have hi:i<t.aA.length:=gA
  refine W3 ?_;refine C2 (Uv t.aA[i] (hG _ (ac hi))) ?_;refine S0 (fun hb h=>?_) fun hb h=>?_
  ·rw[bad i hi h]
  have k2:=h;refine W3 ?_;rw[show List.map encS names++[[D.s t.aA[i].fName]]=List.map encS (names++[t.aA[i].fName]) by simp[encS]]
  exact bR 2 gE (i+1,names++[t.aA[i].fName]) gC rfl rfl rfl rfl ⟨gC,by simp only;rw[p2,jk (by simpa [mR] using hi)];simp[mR],fun j hj hji=>by
   simp only at hji;by_cases e:j=i
   ·subst e;exact k2
   ·exact p3 j hj gA⟩
 have hi:i=t.aA.length:=gA
 have hn:names=mR t:=by rw[p2,aE (by simp[mR];omega)]
 have hall:t.aA.all iZ=true:=az.2 fun c hc=>by
  obtain⟨j,hj,e⟩:=ci hc;rw[<-e];exact p3 j hj gA
 refine C2 (qZ names gA) ?_;exact aK (by unfold dW;rw[h1,h3,hall,<-hn,bK h2,bK h4,aO h5];simp)
theorem rZ(t:bI)(hsz:t.sz<=4194304):aD prog 106 [t.v] (.c (.d (.b (dW t)))):=fun S=>by
 have hs:=bI.sum t
 have hV:∀s∈t.bU,s.length<=4194304:=fun s h=>by have:=uO h;omega
 have hG:∀g∈t.aA,g.sz<=4194304:=fun g h=>by have:=AR h;omega
 have bad:∀i,∀hi:i<t.aA.length,iZ t.aA[i]=false->dW t=false:=fun i hi h=>by
  have:t.aA.all iZ=false:=eX.2 fun hx=>by
   rw[az.1 hx _ (ac hi)] at h;cases h
  unfold dW
  rw[this];simp
 have avM:zo t->V.c (.d (.b false))=V.c (.d (.b (dW t))):=fun h=>aK (by unfold dW;rw[bK h];simp);refine zcx [.tmp 2] func106 ntmps106 ?_;refine W1 ?_;refine W3 ?_;refine nu 3 1 [] rfl gL ?_
 refine aZ (ι:=Nat×List (List UInt8)) zmx rfl [1,3,4] (fun y=>[.c (.ptr (0,0) 0),.c (.bJ (0,1) (y.2.map encS)),.c (.d (.i .i64 y.1))]) (fun y=>[.box (t.enc.map .d),.tok 1 (y.2.map encS)]::S)
  (fun y=>y.1<=t.aA.length/\y.2=(mR t).take y.1/\∀j,∀hj:j<t.aA.length,j<y.1->iZ t.aA[j]=true) (fun y=>t.aA.length-y.1) (0,[]) rfl ?_ ⟨an _,rfl,fun j _ h=>by simp only at h;omega⟩ ?_
 ·exact Z1
 rintro⟨i,names⟩ ⟨p1,p2,p3⟩;simp only at p1 p2 p3
 have pl:names.length<=t.aA.length:=by rw[p2];simp[mR];omega
 refine W1 ?_;refine S0 (fun hb h=>?_) fun hb h=>?_
 ·have hi:i<t.aA.length:=gA
  refine W3 ?_;refine C2 (aix t.aA[i] (hG _ (ac hi))) ?_;refine S0 (fun hb h=>?_) fun hb h=>?_
  ·rw[bad i hi h]
  have k2:=h;refine W3 ?_;rw[show List.map encS names++[[D.s t.aA[i].fName]]=List.map encS (names++[t.aA[i].fName]) by simp[encS]]
  exact dH (i+1,names++[t.aA[i].fName]) gC rfl rfl ⟨gC,by simp only;rw[p2,jk (by simpa [mR] using hi)];simp[mR],fun j hj hji=>by
   simp only at hji;by_cases e:j=i
   ·subst e;exact k2
   ·exact p3 j hj gA⟩
 have hi:i=t.aA.length:=gA
 have hn:names=mR t:=by rw[p2,aE (by simp[mR];omega)]
 have hall:t.aA.all iZ=true:=az.2 fun c hc=>by
  obtain⟨j,hj,e⟩:=ci hc;rw[<-e];exact p3 j hj gA
 have QZ:=abS hall
 have hnl:∀s∈names,s.length<=4194304:=fun s hm=>by
  rw[hn] at hm;obtain⟨g,hg,e⟩:=cr.1 hm;have:=hG g hg;have:=bg.sum g;rw[<-e];omega
 have hlen:names.length=t.aA.length:=by rw[hn];simp[mR]
 clear bad p2 p3
 repeat' (first|refine S0 (fun hb h=>?_) fun hb h=>?_)
 all_goals first
  |(refine avM ⟨by assumption,?_⟩;first|exact .inl (by assumption)|exact .inr (.inl gA)|exact .inr (.inr gA))
  |skip
 all_goals
  have na:¬zo t:=fun x=>by
   obtain⟨x1,x2⟩:=x
   rcases x2 with x2|x2|x2<;>first|omega|simp_all
  refine W3 ?_;refine C1 (iV t.fName gA) ?_;refine S0 (fun hb h=>?_) fun hb h=>?_
  ·have h1:=h;refine W3 ?_;refine C2 (nD t.bU 4 gA hV) ?_;refine S0 (fun hb h=>?_) fun hb h=>?_
   ·have h2:=h;rw[ai] at h2;have h3:=gD h2.1;refine C2 (nD names 6 gA hnl) ?_;refine aK ?_;unfold dW;rw[h1,h2.2,hall,aO na,bK (show t.bU.length<=4 by omega),hlen];unfold je;rw[hn,QZ,cD];simp only[cd,fL];congr 1;exact iJ ⟨fun h=>gA,fun h=>gA⟩
   ·refine aK ?_;unfold dW
    have h2:(dec (t.bU.length<=4)&&je t.bU)=false:=by
     rw[<-h];congr 1;exact iJ ⟨fun h=>gA,fun h=>gA⟩
    rw[<-fW (dec (t.bU.length<=4)),h2];simp
  ·exact aK (by unfold dW;rw[h];rfl)
def vE:List UInt8:=[97,117,116,111]
def kE:List UInt8:=[116,114,97,105,116]
def mh(t:bI):List (List UInt8):=(if t.pR=true then [vE] else [])++(if t.bP=true then [jm] else [])
def oH(g:bg):ah:=bL ([bN g.fName,bL (g.bG.map dI),dI g.dh]++if g.ji=true then [bL (aR g.aG),fG g.fBody] else [])
theorem Ov(n:Nat)(es:List (List D)):Less (.c (.d (.ol n es))) (.c (.d (.sl es))):=fun w σ S β v h=>⟨vI h.1,h.2⟩
def jq(t:bI):List ah:=[bN kE,bN t.fName,bL (aR t.bU),bL (aR (mh t))]
def kF(t:bI):ah:=bL (jq t++t.aA.map oH)
noncomputable def wQ(x:bI):ah:=sD (dW x) (kF x)
theorem al3{x:bI}(h:x.sz<=1048576):(wQ x).sz<=1048576:=co (FV _ _) gE
theorem CJ{g:bg}(h:g.ji=true):(oH g).aj=[bN g.fName,bL (g.bG.map dI),dI g.dh,bL (aR g.aG),fG g.fBody]:=by rw[oH,if_pos h];rfl
theorem CK{g:bg}(h:g.ji=false):(oH g).aj=[bN g.fName,bL (g.bG.map dI),dI g.dh]:=by rw[oH,if_neg (by rw[h];decide)];rfl
theorem CO(g:bg):(oH g).aI=[]:=rfl
theorem tq{g:bg}(h:iZ g=true):jG g.bG=true/\formed g.dh=true/\(g.ji=true->jl g.fBody=true):=by
 unfold iZ at h;simp only[ai] at h;obtain⟨_,_,h1,h2,h3⟩:=h;refine⟨Ad h1,xX h2,fun hd=> ?_⟩;rw[if_pos hd,ai] at h3;exact Iq h3.2
theorem arl(g:bg)(hok:iZ g=true):(oH g).sz<=48+32*g.sz:=by
 obtain⟨_,_,hb⟩:=tq hok;have h1:=R5 g.bG;have h2:=D9 g.dh;have h3:=bg.sum g;rw[dN,Cy] at h3;by_cases hd:g.ji=true
 ·have h4:=MV g.fBody (hb hd);rw[oH,if_pos hd,jH];simp[dx,jY,jH,jP,sU];omega
 ·rw[oH,if_neg hd,jH];simp[dx,jY,jH,jP,sU];omega
theorem ac0:∀l:List bg,(∀g∈l,iZ g=true)->dx (l.map oH)<=48*l.length+32*aS (l.map bg.enc)
 |[],_=>by simp[dx]
 |c::l,h=>by
  have h1:=arl c (h c (ey ..));have h2:=ac0 l fun g hg=>h g (eC _ hg);rw[af,dx,af,aS,aa];simp only[bg.sz] at h1;omega
theorem jW{t:bI}(h:dW t=true):(∀g∈t.aA,iZ g=true)/\¬(t.pR=true/\t.bP=true):=by
 unfold dW at h;simp only[ai,fj] at h;obtain⟨_,_,_,_,h1,h2,_⟩:=h;refine⟨fun g hg=>az.1 h2 g hg,fun hh=> ?_⟩;rw[bK (show zo t from⟨hh.1,.inl hh.2⟩)] at h1;cases h1
theorem aiz(t:bI):(mh t).length<=2/\((mh t).map List.length).sum<=9:=by
 unfold mh;split<;>split<;>simp[vE,jm]
theorem JX{t:bI}(hok:dW t=true):(kF t).sz<=64+49*t.sz:=by
 have h1:=ac0 t.aA (jW hok).1;have h2:=aiz t;have h3:=bI.sum t;rw[dN] at h3;rw[kF,jH,gQ,ae,ab];simp[jq,dx,jY,jH,jP,sU,kE];omega
theorem Je(n:Nat)(a b:List UInt8)(w v:List (List UInt8)):lx [bN a,bN b,bL (aR w),bL (aR v)] (n+1)=[[.s a,.ol (n+1) []],[.s b,.ol (n+1+1) []],[.s [],.ol (n+1+1+1) (lx (aR w) (n+1+1+1+1))],[.s [],.ol (n+1+1+1+d9 (bL (aR w))) (lx (aR v) (n+1+1+1+d9 (bL (aR w))+1))]]:=by
 simp only[jZ,nU,jM,kM,kN,eF,dD,kI]
theorem abT(t:bI)(n:Nat)(hv:dW t=true)(hsz:t.sz<=1048576)(ha:t.pR=true)(hs:t.bP=false):aD prog 76 [t.v] (.agg [.d (.s []),.d (.ol n (lx (kF t).aj (n+1)))]):=fun S=>by
 have hdz:=bI.sum t;rw[dN] at hdz;obtain⟨hso,_⟩:=jW hv
 have hfl:mh t=[vE]:=by unfold mh;rw[ha,hs];rfl
 obtain⟨L,hL⟩:∃L:Nat->Nat,L=fun i=>n+1+iY (jq t++(t.aA.map oH).take i):=⟨_,rfl⟩;obtain⟨T,hT⟩:∃T:Nat->List (List D),T=fun i=>lx (jq t++(t.aA.map oH).take i) (n+1):=⟨_,rfl⟩
 have hT0:T 0=[[.s kE,.ol (n+1) []],[.s t.fName,.ol (n+1+1) []],[.s [],.ol (n+1+1+1) (lx (aR t.bU) (n+1+1+1+1))],[.s [],.ol (n+1+1+1+d9 (bL (aR t.bU))) (lx (aR [vE]) (n+1+1+1+d9 (bL (aR t.bU))+1))]]:=by
  rw[hT];simp only[cE,bm,jq,hfl];exact Je _ _ _ _ _
 have fZ:∀i,(T i).length<=i+4:=fun i=>by
  rw[hT];simp only[gM,ae];have:=bi i (t.aA.map oH);simp[jq];omega
 have hTs:∀i (hi:i<t.aA.length),T i++[[.s [],.ol (L i) (lx (oH t.aA[i]).aj (L i+1))]]=T (i+1):=fun i hi=>by
  have:=CB (base:=jq t) (l:=t.aA.map oH) (i:=i) hJ (n+1);rw[bp,CO] at this;rw[hT,hL];exact this
 have hTr:∀i,∀r∈T i,r.length=2:=fun i=>by rw[hT];exact lg
 have hTe:T t.aA.length=lx (kF t).aj (n+1):=by
  rw[hT];simp only
  rw[aE gL];rfl
 clear hT hL;refine sF (n) 1 (rs:=[.cell 2 26]) zmx func76 ntmps76 rfl rfl rfl rfl rfl ?_;refine YT ?_;refine W3 ?_;refine C1 (dL _ (n+1)) ?_;refine C1 (dL _ (n+1+1)) ?_;refine C1 (eT t.bU gA (n+1+1+1)) ?_;refine lQ (eT [vE] gL (n+1+1+1+d9 (bL (aR t.bU)))) (.cons (Ov n _) .nil) ?_;refine W1 ?_;refine W3 ?_;refine lV n 4 2 (T 0) (.inl ?_) (hTr 0) ?_
 ·rw[hT0];rfl
 refine oW (L 0) ?_
 refine aZ (ι:=Nat) zmx rfl [2,4,30,31,32] (fun i=>[.c (.ptr (0,3) 0),.c (.bJ (0,4) (T i)),.c (.d (.sl (t.aA.map bg.enc))),.c (.d (.i .i64 t.aA.length)),.c (.d (.i .i64 i))])
  (fun i=>[.seed (L i),.seed 1,.box [.d (.s t.fName),.d (.sl (t.bU.map encS)),.d (.b true),.d (.b false),.d (.sl (t.aA.map bg.enc))],.box [.d (.s []),.bH []],.eP n 2 (T i)]::S)
  (fun i=>i<=t.aA.length) (fun i=>t.aA.length-i) 0 rfl rfl (an _) ?_
 intro i hi;have hl:=fZ i;refine W1 ?_;refine S0 (fun hb h=>?_) fun hb h=>?_
 ·have hi':i<t.aA.length:=gA
  have hm:=ac hi';have hcz:=AR hm;have hce:=bg.sum t.aA[i];rw[dN] at hce;obtain⟨q1,q2,q3⟩:=tq (hso _ hm);have hst:=hTs i hi';refine W3 ?_;refine C1 (dL _ (L i+1)) ?_;refine C1 (Dq t.aA[i].bG (L i+1+1) (L i+1+1+1) q1 gA (fun u hu=>by have:=AQ hu;omega)) ?_;refine C1 (lS _) ?_;refine C1 (mI t.aA[i].dh (L i+1+1+d9 (bL (t.aA[i].bG.map dI))) q2 gA) ?_;refine S0 (fun hb h=>?_) fun hb h=>?_
  ·rw[CJ h] at hst;simp only[jZ,nU,jM,kM,kN,eF,dD,kI] at hst;refine C1 (eT t.aA[i].aG gA (L i+1+1+d9 (bL (t.aA[i].bG.map dI))+d9 (dI t.aA[i].dh))) ?_;refine C1 (BM t.aA[i].fBody (L i+1+1+d9 (bL (t.aA[i].bG.map dI))+d9 (dI t.aA[i].dh)+d9 (bL (aR t.aA[i].aG))) (q3 h) gA) ?_;refine W3 ?_;refine C1 (lS _) ?_;refine W3 ?_;rw[hst];refine lH (L (i+1)) 4 gE (i+1) gA rfl rfl ?_ rfl gA;simp[jh,iy,V.refs,C.refs,kR]
  ·rw[CK h] at hst;simp only[jZ,nU,jM,kM,kN,eF,dD,kI] at hst;refine C1 (oF _ _) ?_;refine W3 ?_;rw[hst];refine lH (L (i+1)) 4 gE (i+1) gA rfl rfl ?_ rfl gA;simp[jh,iy,V.refs,C.refs,kR]
 ·have hi':i=t.aA.length:=gA
  refine bD rfl (kP 0 4 _ _) ?_;refine W1 ?_;rw[hi',hTe]
theorem abU(t:bI)(n:Nat)(hv:dW t=true)(hsz:t.sz<=1048576)(ha:t.pR=false)(hs:t.bP=true):aD prog 76 [t.v] (.agg [.d (.s []),.d (.ol n (lx (kF t).aj (n+1)))]):=fun S=>by
 have hdz:=bI.sum t;rw[dN] at hdz;obtain⟨hso,_⟩:=jW hv
 have hfl:mh t=[jm]:=by unfold mh;rw[ha,hs];rfl
 obtain⟨L,hL⟩:∃L:Nat->Nat,L=fun i=>n+1+iY (jq t++(t.aA.map oH).take i):=⟨_,rfl⟩;obtain⟨T,hT⟩:∃T:Nat->List (List D),T=fun i=>lx (jq t++(t.aA.map oH).take i) (n+1):=⟨_,rfl⟩
 have hT0:T 0=[[.s kE,.ol (n+1) []],[.s t.fName,.ol (n+1+1) []],[.s [],.ol (n+1+1+1) (lx (aR t.bU) (n+1+1+1+1))],[.s [],.ol (n+1+1+1+d9 (bL (aR t.bU))) (lx (aR [jm]) (n+1+1+1+d9 (bL (aR t.bU))+1))]]:=by
  rw[hT];simp only[cE,bm,jq,hfl];exact Je _ _ _ _ _
 have fZ:∀i,(T i).length<=i+4:=fun i=>by
  rw[hT];simp only[gM,ae];have:=bi i (t.aA.map oH);simp[jq];omega
 have hTs:∀i (hi:i<t.aA.length),T i++[[.s [],.ol (L i) (lx (oH t.aA[i]).aj (L i+1))]]=T (i+1):=fun i hi=>by
  have:=CB (base:=jq t) (l:=t.aA.map oH) (i:=i) hJ (n+1);rw[bp,CO] at this;rw[hT,hL];exact this
 have hTr:∀i,∀r∈T i,r.length=2:=fun i=>by rw[hT];exact lg
 have hTe:T t.aA.length=lx (kF t).aj (n+1):=by
  rw[hT];simp only
  rw[aE gL];rfl
 clear hT hL;refine sF (n) 1 (rs:=[.cell 2 26]) zmx func76 ntmps76 rfl rfl rfl rfl rfl ?_;refine YT ?_;refine W3 ?_;refine C1 (dL _ (n+1)) ?_;refine C1 (dL _ (n+1+1)) ?_;refine C1 (eT t.bU gA (n+1+1+1)) ?_;refine lQ (eT [jm] gL (n+1+1+1+d9 (bL (aR t.bU)))) (.cons (Ov n _) .nil) ?_;refine W1 ?_;refine W3 ?_;refine lV n 4 2 (T 0) (.inl ?_) (hTr 0) ?_
 ·rw[hT0];rfl
 refine oW (L 0) ?_
 refine aZ (ι:=Nat) zmx rfl [2,4,30,31,32] (fun i=>[.c (.ptr (0,3) 0),.c (.bJ (0,4) (T i)),.c (.d (.sl (t.aA.map bg.enc))),.c (.d (.i .i64 t.aA.length)),.c (.d (.i .i64 i))])
  (fun i=>[.seed (L i),.seed 1,.box [.d (.s t.fName),.d (.sl (t.bU.map encS)),.d (.b false),.d (.b true),.d (.sl (t.aA.map bg.enc))],.box [.d (.s []),.bH []],.eP n 2 (T i)]::S)
  (fun i=>i<=t.aA.length) (fun i=>t.aA.length-i) 0 rfl rfl (an _) ?_
 intro i hi;have hl:=fZ i;refine W1 ?_;refine S0 (fun hb h=>?_) fun hb h=>?_
 ·have hi':i<t.aA.length:=gA
  have hm:=ac hi';have hcz:=AR hm;have hce:=bg.sum t.aA[i];rw[dN] at hce;obtain⟨q1,q2,q3⟩:=tq (hso _ hm);have hst:=hTs i hi';refine W3 ?_;refine C1 (dL _ (L i+1)) ?_;refine C1 (Dq t.aA[i].bG (L i+1+1) (L i+1+1+1) q1 gA (fun u hu=>by have:=AQ hu;omega)) ?_;refine C1 (lS _) ?_;refine C1 (mI t.aA[i].dh (L i+1+1+d9 (bL (t.aA[i].bG.map dI))) q2 gA) ?_;refine S0 (fun hb h=>?_) fun hb h=>?_
  ·rw[CJ h] at hst;simp only[jZ,nU,jM,kM,kN,eF,dD,kI] at hst;refine C1 (eT t.aA[i].aG gA (L i+1+1+d9 (bL (t.aA[i].bG.map dI))+d9 (dI t.aA[i].dh))) ?_;refine C1 (BM t.aA[i].fBody (L i+1+1+d9 (bL (t.aA[i].bG.map dI))+d9 (dI t.aA[i].dh)+d9 (bL (aR t.aA[i].aG))) (q3 h) gA) ?_;refine W3 ?_;refine C1 (lS _) ?_;refine W3 ?_;rw[hst];refine lH (L (i+1)) 4 gE (i+1) gA rfl rfl ?_ rfl gA;simp[jh,iy,V.refs,C.refs,kR]
  ·rw[CK h] at hst;simp only[jZ,nU,jM,kM,kN,eF,dD,kI] at hst;refine C1 (oF _ _) ?_;refine W3 ?_;rw[hst];refine lH (L (i+1)) 4 gE (i+1) gA rfl rfl ?_ rfl gA;simp[jh,iy,V.refs,C.refs,kR]
 ·have hi':i=t.aA.length:=gA
  refine bD rfl (kP 0 4 _ _) ?_;refine W1 ?_;rw[hi',hTe]
theorem abV(t:bI)(n:Nat)(hv:dW t=true)(hsz:t.sz<=1048576)(ha:t.pR=false)(hs:t.bP=false):aD prog 76 [t.v] (.agg [.d (.s []),.d (.ol n (lx (kF t).aj (n+1)))]):=fun S=>by
 have hdz:=bI.sum t;rw[dN] at hdz;obtain⟨hso,_⟩:=jW hv
 have hfl:mh t=[]:=by unfold mh;rw[ha,hs];rfl
 obtain⟨L,hL⟩:∃L:Nat->Nat,L=fun i=>n+1+iY (jq t++(t.aA.map oH).take i):=⟨_,rfl⟩;obtain⟨T,hT⟩:∃T:Nat->List (List D),T=fun i=>lx (jq t++(t.aA.map oH).take i) (n+1):=⟨_,rfl⟩
 have hT0:T 0=[[.s kE,.ol (n+1) []],[.s t.fName,.ol (n+1+1) []],[.s [],.ol (n+1+1+1) (lx (aR t.bU) (n+1+1+1+1))],[.s [],.ol (n+1+1+1+d9 (bL (aR t.bU))) (lx (aR []) (n+1+1+1+d9 (bL (aR t.bU))+1))]]:=by
  rw[hT];simp only[cE,bm,jq,hfl];exact Je _ _ _ _ _
 have fZ:∀i,(T i).length<=i+4:=fun i=>by
  rw[hT];simp only[gM,ae];have:=bi i (t.aA.map oH);simp[jq];omega
 have hTs:∀i (hi:i<t.aA.length),T i++[[.s [],.ol (L i) (lx (oH t.aA[i]).aj (L i+1))]]=T (i+1):=fun i hi=>by
  have:=CB (base:=jq t) (l:=t.aA.map oH) (i:=i) hJ (n+1);rw[bp,CO] at this;rw[hT,hL];exact this
 have hTr:∀i,∀r∈T i,r.length=2:=fun i=>by rw[hT];exact lg
 have hTe:T t.aA.length=lx (kF t).aj (n+1):=by
  rw[hT];simp only
  rw[aE gL];rfl
 clear hT hL;refine sF (n) 1 (rs:=[.cell 2 26]) zmx func76 ntmps76 rfl rfl rfl rfl rfl ?_;refine YT ?_;refine W3 ?_;refine C1 (dL _ (n+1)) ?_;refine C1 (dL _ (n+1+1)) ?_;refine C1 (eT t.bU gA (n+1+1+1)) ?_;refine lQ (eT [] gL (n+1+1+1+d9 (bL (aR t.bU)))) (.cons (pE n _) .nil) ?_;refine W1 ?_;refine W3 ?_;refine lV n 4 2 (T 0) (.inl ?_) (hTr 0) ?_
 ·rw[hT0];rfl
 refine oW (L 0) ?_
 refine aZ (ι:=Nat) zmx rfl [2,4,30,31,32] (fun i=>[.c (.ptr (0,3) 0),.c (.bJ (0,4) (T i)),.c (.d (.sl (t.aA.map bg.enc))),.c (.d (.i .i64 t.aA.length)),.c (.d (.i .i64 i))])
  (fun i=>[.seed (L i),.seed 1,.box [.d (.s t.fName),.d (.sl (t.bU.map encS)),.d (.b false),.d (.b false),.d (.sl (t.aA.map bg.enc))],.box [.d (.s []),.bH []],.eP n 2 (T i)]::S)
  (fun i=>i<=t.aA.length) (fun i=>t.aA.length-i) 0 rfl rfl (an _) ?_
 intro i hi;have hl:=fZ i;refine W1 ?_;refine S0 (fun hb h=>?_) fun hb h=>?_
 ·have hi':i<t.aA.length:=gA
  have hm:=ac hi';have hcz:=AR hm;have hce:=bg.sum t.aA[i];rw[dN] at hce;obtain⟨q1,q2,q3⟩:=tq (hso _ hm);have hst:=hTs i hi';refine W3 ?_;refine C1 (dL _ (L i+1)) ?_;refine C1 (Dq t.aA[i].bG (L i+1+1) (L i+1+1+1) q1 gA (fun u hu=>by have:=AQ hu;omega)) ?_;refine C1 (lS _) ?_;refine C1 (mI t.aA[i].dh (L i+1+1+d9 (bL (t.aA[i].bG.map dI))) q2 gA) ?_;refine S0 (fun hb h=>?_) fun hb h=>?_
  ·rw[CJ h] at hst;simp only[jZ,nU,jM,kM,kN,eF,dD,kI] at hst;refine C1 (eT t.aA[i].aG gA (L i+1+1+d9 (bL (t.aA[i].bG.map dI))+d9 (dI t.aA[i].dh))) ?_;refine C1 (BM t.aA[i].fBody (L i+1+1+d9 (bL (t.aA[i].bG.map dI))+d9 (dI t.aA[i].dh)+d9 (bL (aR t.aA[i].aG))) (q3 h) gA) ?_;refine W3 ?_;refine C1 (lS _) ?_;refine W3 ?_;rw[hst];refine lH (L (i+1)) 4 gE (i+1) gA rfl rfl ?_ rfl gA;simp[jh,iy,V.refs,C.refs,kR]
  ·rw[CK h] at hst;simp only[jZ,nU,jM,kM,kN,eF,dD,kI] at hst;refine C1 (oF _ _) ?_;refine W3 ?_;rw[hst];refine lH (L (i+1)) 4 gE (i+1) gA rfl rfl ?_ rfl gA;simp[jh,iy,V.refs,C.refs,kR]
 ·have hi':i=t.aA.length:=gA
  refine bD rfl (kP 0 4 _ _) ?_;refine W1 ?_;rw[hi',hTe]
theorem EG(t:bI)(n:Nat)(hv:dW t=true)(hsz:t.sz<=1048576):aD prog 76 [t.v] (.agg [.d (.s []),.d (.ol n (lx (kF t).aj (n+1)))]):=by
 have hb:=(jW hv).2
 cases ha:t.pR with
 |true=>
  cases hs:t.bP with
  |true=>exact absurd ⟨ha,hs⟩ hb
  |false=>exact abT t n hv hsz ha hs
 |false=>
  cases hs:t.bP with
  |true=>exact abU t n hv hsz ha hs
  |false=>exact abV t n hv hsz ha hs
theorem al4(t:bI)(hv:dW t=true)(hsz:t.sz<=1048576)(ha:t.pR=true)(hs:t.bP=false):aD prog 41 [t.v] (vQ (kF t)).v:=fun S=>by
 have hdz:=bI.sum t;rw[dN] at hdz;obtain⟨hso,_⟩:=jW hv;have hz:=JX hv
 have hfl:mh t=[vE]:=by unfold mh;rw[ha,hs];rfl
 obtain⟨T,hT⟩:∃T:Nat->List (List D),T=fun i=>(jq t++(t.aA.map oH).take i).map ah.enc:=⟨_,rfl⟩
 have hT0:T 0=[[.s kE,.sl []],[.s t.fName,.sl []],[.s [],.sl ((aR t.bU).map ah.enc)],[.s [],.sl ((aR [vE]).map ah.enc)]]:=by
  rw[hT];simp only[cE,bm,jq,hfl,af,aw,fI,jV]
 have fZ:∀i,(T i).length<=i+4:=fun i=>by
  rw[hT];simp only[ab,ae];have:=bi i (t.aA.map oH);simp[jq];omega
 have hTs:∀i (hi:i<t.aA.length),T i++[[.s [],.sl ((oH t.aA[i]).aj.map ah.enc)]]=T (i+1):=fun i hi=>by
  have:=jI (base:=jq t) (l:=t.aA.map oH) (i:=i) hJ;rw[bp,CO] at this;rw[hT];exact this
 have hTr:∀i,∀r∈T i,r.length=2:=fun i=>by rw[hT];exact gK
 have hTe:T t.aA.length=(kF t).aj.map ah.enc:=by
  rw[hT];simp only
  rw[aE gL];rfl
 clear hT;refine zcx [.cell 2 26] func41 ntmps41 ?_;refine W1 ?_;refine bn (rZ t gA) ?_;refine YU ?_;refine W3 ?_;refine C1 (bW _) ?_;refine C1 (bW _) ?_;refine C1 (eG t.bU gA) ?_;refine C1 (eG [vE] gL) ?_;have hE:=fun bY Ω=>kD (T 0) (hTr 0) (by have:=fZ 0;omega) bY Ω;simp only[hT0] at hE;refine dX [false] rfl (hE _ _) ?_;refine W1 ?_
 refine aZ (ι:=Nat) zmx rfl [1,2,4,5] (fun i=>[.c (.ptr (0,0) 0),.c (.ptr (0,1) 0),.c (.ptr (0,5) 0),.c (.d (.i .i64 i))])
  (fun i=>[.box [.d (.s t.fName),.d (.sl (t.bU.map encS)),.d (.b true),.d (.b false),.d (.sl (t.aA.map bg.enc))],.box [.d (.s []),.bH []],.tok 1 [[.s vE]],.box [.d (.s []),.bJ (0,4) (T 0)],.tok 2 (T i),.box [.d (.s []),.bJ (0,4) (T i)]]::S)
  (fun i=>i<=t.aA.length) (fun i=>t.aA.length-i) 0 rfl (by simp only[hT0]<;>(try rfl)) (an _) ?_
 intro i hi;have hl:=fZ i;refine W1 ?_;refine S0 (fun hb h=>?_) fun hb h=>?_
 ·have hi':i<t.aA.length:=gA
  have hm:=ac hi';have hcz:=AR hm;have hce:=bg.sum t.aA[i];rw[dN] at hce;obtain⟨q1,q2,q3⟩:=tq (hso _ hm);have hst:=hTs i hi';refine W3 ?_;refine C1 (bW _) ?_;refine C1 (FC t.aA[i].bG gA (fun u hu=>by have:=AQ hu;omega)) ?_;refine C1 (mX t.aA[i].dh gA) ?_;refine dX [false] rfl (kD _ gL gL _ _) ?_;refine W1 ?_;refine S0 (fun hb h=>?_) fun hb h=>?_
  ·rw[CJ h] at hst;simp only[af,aw,fI,jV,ah.aC (dI t.aA[i].dh),ah.aC (fG t.aA[i].fBody)] at hst;refine C1 (eG t.aA[i].aG gA) ?_;refine C1 (wz t.aA[i].fBody (q3 h) gA) ?_;refine W3 ?_;rw[hst];exact bR 6 gE (i+1) gA rfl rfl rfl rfl gA
  ·rw[CK h] at hst;simp only[af,aw,fI,jV,ah.aC (dI t.aA[i].dh)] at hst;refine W3 ?_;rw[hst];exact bR 6 gE (i+1) gA rfl rfl rfl rfl gA
 ·have hi':i=t.aA.length:=gA
  subst hi';rw[hTe];refine C1 (sW true (kF t) gA) ?_;rfl
theorem al5(t:bI)(hv:dW t=true)(hsz:t.sz<=1048576)(ha:t.pR=false)(hs:t.bP=true):aD prog 41 [t.v] (vQ (kF t)).v:=fun S=>by
 have hdz:=bI.sum t;rw[dN] at hdz;obtain⟨hso,_⟩:=jW hv;have hz:=JX hv
 have hfl:mh t=[jm]:=by unfold mh;rw[ha,hs];rfl
 obtain⟨T,hT⟩:∃T:Nat->List (List D),T=fun i=>(jq t++(t.aA.map oH).take i).map ah.enc:=⟨_,rfl⟩
 have hT0:T 0=[[.s kE,.sl []],[.s t.fName,.sl []],[.s [],.sl ((aR t.bU).map ah.enc)],[.s [],.sl ((aR [jm]).map ah.enc)]]:=by
  rw[hT];simp only[cE,bm,jq,hfl,af,aw,fI,jV]
 have fZ:∀i,(T i).length<=i+4:=fun i=>by
  rw[hT];simp only[ab,ae];have:=bi i (t.aA.map oH);simp[jq];omega
 have hTs:∀i (hi:i<t.aA.length),T i++[[.s [],.sl ((oH t.aA[i]).aj.map ah.enc)]]=T (i+1):=fun i hi=>by
  have:=jI (base:=jq t) (l:=t.aA.map oH) (i:=i) hJ;rw[bp,CO] at this;rw[hT];exact this
 have hTr:∀i,∀r∈T i,r.length=2:=fun i=>by rw[hT];exact gK
 have hTe:T t.aA.length=(kF t).aj.map ah.enc:=by
  rw[hT];simp only
  rw[aE gL];rfl
 clear hT;refine zcx [.cell 2 26] func41 ntmps41 ?_;refine W1 ?_;refine bn (rZ t gA) ?_;refine YU ?_;refine W3 ?_;refine C1 (bW _) ?_;refine C1 (bW _) ?_;refine C1 (eG t.bU gA) ?_;refine C1 (eG [jm] gL) ?_;have hE:=fun bY Ω=>kD (T 0) (hTr 0) (by have:=fZ 0;omega) bY Ω;simp only[hT0] at hE;refine dX [false] rfl (hE _ _) ?_;refine W1 ?_
 refine aZ (ι:=Nat) zmx rfl [1,2,4,5] (fun i=>[.c (.ptr (0,0) 0),.c (.ptr (0,1) 0),.c (.ptr (0,5) 0),.c (.d (.i .i64 i))])
  (fun i=>[.box [.d (.s t.fName),.d (.sl (t.bU.map encS)),.d (.b false),.d (.b true),.d (.sl (t.aA.map bg.enc))],.box [.d (.s []),.bH []],.tok 1 [[.s jm]],.box [.d (.s []),.bJ (0,4) (T 0)],.tok 2 (T i),.box [.d (.s []),.bJ (0,4) (T i)]]::S)
  (fun i=>i<=t.aA.length) (fun i=>t.aA.length-i) 0 rfl (by simp only[hT0]<;>(try rfl)) (an _) ?_
 intro i hi;have hl:=fZ i;refine W1 ?_;refine S0 (fun hb h=>?_) fun hb h=>?_
 ·have hi':i<t.aA.length:=gA
  have hm:=ac hi';have hcz:=AR hm;have hce:=bg.sum t.aA[i];rw[dN] at hce;obtain⟨q1,q2,q3⟩:=tq (hso _ hm);have hst:=hTs i hi';refine W3 ?_;refine C1 (bW _) ?_;refine C1 (FC t.aA[i].bG gA (fun u hu=>by have:=AQ hu;omega)) ?_;refine C1 (mX t.aA[i].dh gA) ?_;refine dX [false] rfl (kD _ gL gL _ _) ?_;refine W1 ?_;refine S0 (fun hb h=>?_) fun hb h=>?_
  ·rw[CJ h] at hst;simp only[af,aw,fI,jV,ah.aC (dI t.aA[i].dh),ah.aC (fG t.aA[i].fBody)] at hst;refine C1 (eG t.aA[i].aG gA) ?_;refine C1 (wz t.aA[i].fBody (q3 h) gA) ?_;refine W3 ?_;rw[hst];exact bR 6 gE (i+1) gA rfl rfl rfl rfl gA
  ·rw[CK h] at hst;simp only[af,aw,fI,jV,ah.aC (dI t.aA[i].dh)] at hst;refine W3 ?_;rw[hst];exact bR 6 gE (i+1) gA rfl rfl rfl rfl gA
 ·have hi':i=t.aA.length:=gA
  subst hi';rw[hTe];refine C1 (sW true (kF t) gA) ?_;rfl
theorem al6(t:bI)(hv:dW t=true)(hsz:t.sz<=1048576)(ha:t.pR=false)(hs:t.bP=false):aD prog 41 [t.v] (vQ (kF t)).v:=fun S=>by
 have hdz:=bI.sum t;rw[dN] at hdz;obtain⟨hso,_⟩:=jW hv;have hz:=JX hv
 have hfl:mh t=[]:=by unfold mh;rw[ha,hs];rfl
 obtain⟨T,hT⟩:∃T:Nat->List (List D),T=fun i=>(jq t++(t.aA.map oH).take i).map ah.enc:=⟨_,rfl⟩
 have hT0:T 0=[[.s kE,.sl []],[.s t.fName,.sl []],[.s [],.sl ((aR t.bU).map ah.enc)],[.s [],.sl ((aR []).map ah.enc)]]:=by
  rw[hT];simp only[cE,bm,jq,hfl,af,aw,fI,jV]
 have fZ:∀i,(T i).length<=i+4:=fun i=>by
  rw[hT];simp only[ab,ae];have:=bi i (t.aA.map oH);simp[jq];omega
 have hTs:∀i (hi:i<t.aA.length),T i++[[.s [],.sl ((oH t.aA[i]).aj.map ah.enc)]]=T (i+1):=fun i hi=>by
  have:=jI (base:=jq t) (l:=t.aA.map oH) (i:=i) hJ;rw[bp,CO] at this;rw[hT];exact this
 have hTr:∀i,∀r∈T i,r.length=2:=fun i=>by rw[hT];exact gK
 have hTe:T t.aA.length=(kF t).aj.map ah.enc:=by
  rw[hT];simp only
  rw[aE gL];rfl
 clear hT;refine zcx [.cell 2 26] func41 ntmps41 ?_;refine W1 ?_;refine bn (rZ t gA) ?_;refine YU ?_;refine W3 ?_;refine C1 (bW _) ?_;refine C1 (bW _) ?_;refine C1 (eG t.bU gA) ?_;refine C1 (eG [] gL) ?_;have hE:=fun bY Ω=>kD (T 0) (hTr 0) (by have:=fZ 0;omega) bY Ω;simp only[hT0] at hE;refine dX [false] rfl (hE _ _) ?_;refine W1 ?_
 refine aZ (ι:=Nat) zmx rfl [1,2,4,5] (fun i=>[.c (.ptr (0,0) 0),.c (.ptr (0,1) 0),.c (.ptr (0,4) 0),.c (.d (.i .i64 i))])
  (fun i=>[.box [.d (.s t.fName),.d (.sl (t.bU.map encS)),.d (.b false),.d (.b false),.d (.sl (t.aA.map bg.enc))],.box [.d (.s []),.bH []],.box [.d (.s []),.bJ (0,3) (T 0)],.tok 2 (T i),.box [.d (.s []),.bJ (0,3) (T i)]]::S)
  (fun i=>i<=t.aA.length) (fun i=>t.aA.length-i) 0 rfl (by simp only[hT0]<;>(try rfl)) (an _) ?_
 intro i hi;have hl:=fZ i;refine W1 ?_;refine S0 (fun hb h=>?_) fun hb h=>?_
 ·have hi':i<t.aA.length:=gA
  have hm:=ac hi';have hcz:=AR hm;have hce:=bg.sum t.aA[i];rw[dN] at hce;obtain⟨q1,q2,q3⟩:=tq (hso _ hm);have hst:=hTs i hi';refine W3 ?_;refine C1 (bW _) ?_;refine C1 (FC t.aA[i].bG gA (fun u hu=>by have:=AQ hu;omega)) ?_;refine C1 (mX t.aA[i].dh gA) ?_;refine dX [false] rfl (kD _ gL gL _ _) ?_;refine W1 ?_;refine S0 (fun hb h=>?_) fun hb h=>?_
  ·rw[CJ h] at hst;simp only[af,aw,fI,jV,ah.aC (dI t.aA[i].dh),ah.aC (fG t.aA[i].fBody)] at hst;refine C1 (eG t.aA[i].aG gA) ?_;refine C1 (wz t.aA[i].fBody (q3 h) gA) ?_;refine W3 ?_;rw[hst];exact bR 5 gE (i+1) gA rfl rfl rfl rfl gA
  ·rw[CK h] at hst;simp only[af,aw,fI,jV,ah.aC (dI t.aA[i].dh)] at hst;refine W3 ?_;rw[hst];exact bR 5 gE (i+1) gA rfl rfl rfl rfl gA
 ·have hi':i=t.aA.length:=gA
  subst hi';rw[hTe];refine C1 (sW true (kF t) gA) ?_;rfl
theorem Na(t:bI)(hsz:t.sz<=1048576):aD prog 41 [t.v] (wQ t).v:=by
 unfold wQ
 cases hv:dW t with
 |false=>
  rw[sD];refine aD.less (fun S=> ?_) (CF [] []);refine zcx [.cell 2 26] func41 ntmps41 ?_;refine W1 ?_;refine bn (rZ t gA) ?_;exact Rt
 |true=>
  rw[sD];have hb:=(jW hv).2
  cases ha:t.pR with
  |true=>
   cases hs:t.bP with
   |true=>exact absurd ⟨ha,hs⟩ hb
   |false=>exact al4 t hv hsz ha hs
  |false=>
   cases hs:t.bP with
   |true=>exact al5 t hv hsz ha hs
   |false=>exact al6 t hv hsz ha hs
end Go.Ab