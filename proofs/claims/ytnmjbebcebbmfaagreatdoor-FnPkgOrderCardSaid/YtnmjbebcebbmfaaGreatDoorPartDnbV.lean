/-
  SEVERAL TEXTS IN ONE (merged by program): contracts and models, each with its own heading.
-/
import Derived.Test.YtnmjbebcebbmfaaGreatDoorPartDnbQ
set_option maxHeartbeats 8000000
open Go.Proofs Go.Proofs.Tryz
set_option linter.unusedSimpArgs false
set_option linter.unusedVariables false
set_option maxRecDepth 4000
namespace Go.Ab
noncomputable def nG(m:cO):Bool:=dec (1<=m.aG.length)&&(dec (m.aG.length<=5)&&nV m.aG m.fBody)
noncomputable def mZ(x:aQ):List (List UInt8):=x.aP.map cO.fName
noncomputable def xB(x:aQ):Bool:=validName x.bO&&(dec (x.aG.length<=3)&&(je x.aG&&(iC x.aG x.cB&&(!uq x.cB&&(dec (x.cB.aN=2\/x.cB.aN=1)&&(among x.aG (jX [] x.cB)&&(rQ x.aG x.dJ&&((if x.fu=true then iC x.aG x.bP else dec (zS x.bP))&&dec (x.aP.length<=6)))))))))
noncomputable def fB(x:aQ):Bool:=xB x&&(x.aP.all nG&&je (mZ x))
theorem aQ.sum(x:aQ):x.bO.length+(x.aG.length+aS (x.aG.map encS))+x.cB.sz+(x.dJ.length+aS (x.dJ.map bQ.enc))+x.bP.sz+(x.aP.length+aS (x.aP.map cO.enc))<=x.sz:=by
 simp only[aQ.sz,aQ.aC,bX,bT,D.sz,ab,ak.dY];omega
theorem cO.sum(x:cO):x.fName.length+(x.aG.length+aS (x.aG.map encS))+x.fBody.sz<=x.sz:=by
 simp only[cO.sz,cO.aC,bX,bT,D.sz,ab,au.dY];omega
theorem CU{xs:List cO}{t:cO}(h:t∈xs):t.sz<=aS (xs.map cO.enc):=dM (be h)
theorem VX(v:List UInt8):∀(us:List ak)(out:List (List UInt8)),v∈us.foldl xS out<->v∈out\/0<us.countP (RP v)
 |[],out=>by simp
 |u::us,out=>by
  rw[fi,VX v us,List.countP_cons]
  have h:v∈xS out u<->v∈out\/RP v u=true:=by
   unfold xS RP;split
   ·rename_i h;simp only[dm,ej];constructor
    ·rintro(h1|h1)
     ·exact .inl h1
     ·right;simp[h1,h.1]
    ·rintro(h1|h1)
     ·exact .inl h1
     ·right;simp at h1;exact h1.2.symm
   ·rename_i h;constructor
    ·exact .inl
    ·rintro(h1|h1)
     ·exact h1
     ·simp at h1;by_cases e:u.fName∈out
      ·rw[<-h1.2];exact e
      ·exact absurd ⟨h1.1,e⟩ h
  rw[h]
  cases RP v u<;>simp
theorem afM(v:List UInt8)(t:ak):occurs v t=dec (v∈jX [] t):=by
 unfold occurs jX tQ;rw[kK];exact iJ (by rw[VX];simp)
theorem afN{t:ak}(h:pq t=true):t.aN=1\/t.aN=2\/t.aN=3\/t.aN=4:=by
 have h1:=(gD h).1;rw[Az,ai] at h1;have h2:=gD h1.1;omega
theorem aiL{t:ak}(h:uq t=false):t.aN≠3:=by
 rw[KG] at h;intro e;simp[e] at h
theorem GY(x:aQ)(hsz:x.sz<=4194304):aD prog 36 [x.v] (.c (.d (.b (fB x)))):=fun S=>by
 have hs:=aQ.sum x
 have hV:∀s∈x.aG,s.length<=4194304:=fun s h=>by have:=uO h;omega
 have hW:∀b∈x.dJ,b.sz<=4194304:=fun b h=>by have:=rA h;omega
 have hM:∀m∈x.aP,m.sz<=4194304:=fun m h=>by have:=CU h;omega
 have no:xB x=false->V.c (.d (.b false))=V.c (.d (.b (fB x))):=fun h=>aK (by unfold fB;rw[h];rfl);refine(show Hold (xB x=true-> ?T)->_ from fun tail=> ?main) ?tp
 case' main=>
  refine zcx [.tmp 2] func36 ntmps36 ?_;refine W1 ?_
  repeat' (first
   |refine S0 (fun hb h=>?_) fun hb h=>?_
   |((with_reducible show fH _ _ 30 _ _ _ _);refine bn (iU x.bO gA) ?_;refine W1 ?_)
   |((with_reducible show fH _ _ 31 _ _ _ _);refine bn (qB x.aG gA hV) ?_;refine W1 ?_)
   |((with_reducible show fH _ _ 96 _ _ _ _);refine bn (w9 x.cB x.aG gA gA) ?_;refine W1 ?_)
   |((with_reducible show fH _ _ 96 _ _ _ _);refine bn (w9 x.bP x.aG gA gA) ?_;refine W1 ?_)
   |((with_reducible show fH _ _ 97 _ _ _ _);refine bn (JI x.cB gA) ?_;refine W1 ?_)
   |((with_reducible show fH _ _ 99 _ _ _ _);refine bn (BH x.cB gA) ?_;refine W1 ?_)
   |((with_reducible show fH _ _ 98 _ _ _ _);refine bn (Dp x.aG (jX [] x.cB) gA (SA _ gA)) ?_;refine W1 ?_)
   |((with_reducible show fH _ _ 100 _ _ _ _);refine bn (M5 x.dJ x.aG gA hW gA) ?_;refine W1 ?_)
   |((with_reducible show fH _ _ 101 _ _ _ _);refine bn (Lp x.bP) ?_;refine W1 ?_)
   |(refine no ?_;unfold xB;grind [gD,jw,bK,aO]))
  all_goals
   have hh:xB x=true:=by unfold xB;grind [gD,jw,bK,aO]
   refine W3 ?_;refine nu 3 1 [] rfl gL ?_;refine oD (st':=[.box (x.enc.map .d),.tok 1 []]::S) [3,91,92,93] [.c (.bJ (0,1) []),.c (.d (.sl (x.aP.map cO.enc))),.c (.d (.i .i64 x.aP.length)),.c (.d (.i .i64 0))] ?_ ?_ ?_
   ·rfl
   ·first|(refine W1 ?_;done)|(refine W1 ?_;simp[*])
   ·exact tail.out hh
 refine⟨fun hh=> ?_⟩
 have bad:∀i,∀hi:i<x.aP.length,nG x.aP[i]=false->V.c (.d (.b false))=V.c (.d (.b (fB x))):=fun i hi h=>by
  have:x.aP.all nG=false:=eX.2 fun hx=>by
   rw[az.1 hx _ (ac hi)] at h;cases h
  unfold fB
  rw[this];simp
 refine aZ (ι:=Nat×List (List UInt8)) zmx rfl [3,91,92,93] (fun y=>[.c (.bJ (0,1) (y.2.map encS)),.c (.d (.sl (x.aP.map cO.enc))),.c (.d (.i .i64 x.aP.length)),.c (.d (.i .i64 y.1))]) (fun y=>[.box (x.enc.map .d),.tok 1 (y.2.map encS)]::S)
  (fun y=>y.1<=x.aP.length/\y.2=(mZ x).take y.1/\∀j,∀hj:j<x.aP.length,j<y.1->nG x.aP[j]=true) (fun y=>x.aP.length-y.1) (0,[]) rfl ?_ ⟨an _,rfl,fun j _ h=>by simp only at h;omega⟩ ?_
 ·exact Z1
 rintro⟨i,names⟩ ⟨p1,p2,p3⟩;simp only at p1 p2 p3
 have pl:names.length<=x.aP.length:=by rw[p2];simp[mZ];omega
 refine W1 ?_;refine S0 (fun hb h=>?_) fun hb h=>?_
 ·have hi:i<x.aP.length:=gA
  have hm:=hM _ (ac hi);have hms:=cO.sum x.aP[i]
  have hmv:∀s∈x.aP[i].aG,s.length<=4194304:=fun s h=>by have:=uO h;omega
  refine W3 ?_;refine S0 (fun hb h=>?_) fun hb h=>?_
  ·exact bad i hi (by unfold nG;rw[aO gA];rfl)
  refine W3 ?_;refine S0 (fun hb h=>?_) fun hb h=>?_
  ·exact bad i hi (by unfold nG;rw[aO (show ¬x.aP[i].aG.length<=5 by omega)];simp)
  refine W3 ?_;refine C2 (M4 x.aP[i].aG x.aP[i].fBody gA hmv gA) ?_;refine S0 (fun hb h=>?_) fun hb h=>?_
  ·exact bad i hi (by unfold nG;rw[h];simp)
  have k2:=h
  have k3:nG x.aP[i]=true:=by unfold nG;rw[k2,bK gA,bK gA];rfl
  refine W3 ?_;rw[show List.map encS names++[[D.s x.aP[i].fName]]=List.map encS (names++[x.aP[i].fName]) by simp[encS]]
  exact bR 2 gE (i+1,names++[x.aP[i].fName]) gC rfl rfl rfl rfl ⟨gC,by simp only;rw[p2,jk (by simpa [mZ] using hi)];simp[mZ],fun j hj hji=>by
   simp only at hji;by_cases e:j=i
   ·subst e;exact k3
   ·exact p3 j hj gA⟩
 have hi:i=x.aP.length:=gA
 have hn:names=mZ x:=by rw[p2,aE (by simp[mZ];omega)]
 have hall:x.aP.all nG=true:=az.2 fun c hc=>by
  obtain⟨j,hj,e⟩:=ci hc;rw[<-e];exact p3 j hj gA
 have hnl:∀s∈names,s.length<=4194304:=fun s hm=>by
  rw[hn] at hm;obtain⟨g,hg,e⟩:=cr.1 hm;have:=hM g hg;have:=cO.sum g;rw[<-e];omega
 refine C2 (qB names gA hnl) ?_;exact aK (by unfold fB;rw[hh,hall,hn];rfl)
theorem qh(x:aQ)(hsz:x.sz<=4194304):aD prog 111 [x.v] (.c (.d (.b (fB x)))):=fun S=>by
 have hs:=aQ.sum x
 have hV:∀s∈x.aG,s.length<=4194304:=fun s h=>by have:=uO h;omega
 have hW:∀b∈x.dJ,b.sz<=4194304:=fun b h=>by have:=rA h;omega
 have hM:∀m∈x.aP,m.sz<=4194304:=fun m h=>by have:=CU h;omega
 have bad:x.aP.all nG=false->V.c (.d (.b false))=V.c (.d (.b (fB x))):=fun h=>aK (by unfold fB;rw[h];simp);have no:xB x=false->V.c (.d (.b false))=V.c (.d (.b (fB x))):=fun h=>aK (by unfold fB;rw[h];rfl)
 have hk:iC x.aG x.cB=true->uq x.cB=false->(x.cB.aN=1\/x.cB.aN=2\/x.cB.aN=4):=fun h1 h2=>by
  unfold iC at h1;rw[ai] at h1;have:=afN h1.1;have:=aiL h2;omega
 refine zcx [.tmp 2] func111 ntmps111 ?_;refine W1 ?_
 repeat' (first
  |refine S0 (fun hb h=>?_) fun hb h=>?_
  |((with_reducible show fH _ _ 69 _ _ _ _);refine bn (iV x.bO gA) ?_;refine W1 ?_)
  |((with_reducible show fH _ _ 70 _ _ _ _);refine bn (nD x.aG 3 gA hV) ?_;refine W1 ?_)
  |((with_reducible show fH _ _ 173 _ _ _ _);refine bn (wO x.cB x.aG gA gA) ?_;refine W1 ?_)
  |((with_reducible show fH _ _ 174 _ _ _ _);refine bn (JH x.cB gA) ?_;refine W1 ?_)
  |((with_reducible show fH _ _ 175 _ _ _ _);refine bn (Pj x.dJ x.aG gA hW gA) ?_;refine W1 ?_)
  |(refine no ?_;unfold xB;grind [gD,jw,bK,aO]))
 all_goals
  have h1:validName x.bO=true:=by assumption
  have h2:(dec ((x.aG.length:Int)<=3)&&je x.aG)=true:=by assumption
  have h3:iC x.aG x.cB=true:=by assumption
  have h4:uq x.cB=false:=by assumption
  have h5:¬x.cB.aN=4:=by assumption
  have h6:rQ x.aG x.dJ=true:=by assumption
 have h7:=hk h3 h4;clear hk;rw[ai] at h2;have h8:=gD h2.1
 have pre:xB x=(among x.aG (jX [] x.cB)&&((if x.fu=true then iC x.aG x.bP else dec (zS x.bP))&&dec (x.aP.length<=6))):=by
  unfold xB;rw[h1,h2.2,h3,h4,h6,bK (show x.aG.length<=3 by omega),bK (show x.cB.aN=2\/x.cB.aN=1 by omega)]
  simp
 clear h1 h2 h3 h4 h5 h6 h7 h8
 refine aZ (ι:=Nat) zmx rfl [1,3] (fun i=>[.c (.ptr (0,0) 0),.c (.d (.i .i64 i))]) (fun _=>[.box (x.enc.map .d)]::S)
  (fun i=>i<=x.aG.length/\among (x.aG.drop i) (jX [] x.cB)=among x.aG (jX [] x.cB)) (fun i=>x.aG.length-i) 0 rfl ?_ ⟨an _,rfl⟩ ?_
 ·exact Z1
 rintro i ⟨p1,p2⟩;refine wm ?_;refine BD (fun hb h=>?_) fun hb h=>?_
 ·have hi:i<x.aG.length:=gA
  rw[cb hi] at p2;have p3:among x.aG (jX [] x.cB)=(dec (x.aG[i]∈jX [] x.cB)&&among (x.aG.drop (i+1)) (jX [] x.cB)):=p2.symm;refine W3 ?_;refine C2 (Xa x.aG[i] x.cB gA) ?_;rw[afM];refine S0 (fun hb h=>?_) fun hb h=>?_
  ·exact no (by rw[pre,p3,aO h];rfl)
  ·exact dH (i+1) gA rfl rfl ⟨gA,by rw[p3,bK h];rfl⟩
 rw[cA gA] at p2;have p3:among x.aG (jX [] x.cB)=true:=p2.symm;rw[p3,cd] at pre;refine(show Hold ((if x.fu=true then iC x.aG x.bP else dec (zS x.bP))=true-> ?T)->_ from fun tail=> ?main) ?tp
 case' main=>
  repeat' (first
   |refine S0 (fun hb h=>?_) fun hb h=>?_
   |((with_reducible show fH _ _ 173 _ _ _ _);refine bn (wO x.bP x.aG gA gA) ?_;refine W1 ?_)
   |((with_reducible show fH _ _ 177 _ _ _ _);refine bn (Sk x.bP) ?_;refine W1 ?_)
   |(refine no ?_;rw[pre];grind [gD,jw,bK,aO]))
  all_goals
   have hh:(if x.fu=true then iC x.aG x.bP else dec (zS x.bP))=true:=by grind [gD,jw,bK,aO]
   refine W3 ?_;refine nu 4 1 [] rfl gL ?_;refine oD (st':=[.box (x.enc.map .d),.tok 1 []]::S) [1,4,5] [.c (.ptr (0,0) 0),.c (.bJ (0,1) []),.c (.d (.i .i64 0))] ?_ ?_ ?_
   ·rfl
   ·first|(refine W1 ?_;done)|(refine W1 ?_;simp[*])
   ·exact tail.out hh
 refine⟨fun hh=> ?_⟩;rw[hh,cd] at pre;clear p2 p3 p1 hh no
 have amj:∀i,∀hi:i<x.aP.length,nG x.aP[i]=false->V.c (.d (.b false))=V.c (.d (.b (fB x))):=fun i hi h=>bad (eX.2 fun hx=>by
  rw[az.1 hx _ (ac hi)] at h;cases h)
 refine aZ (ι:=Nat×List (List UInt8)) zmx rfl [1,4,5] (fun y=>[.c (.ptr (0,0) 0),.c (.bJ (0,1) (y.2.map encS)),.c (.d (.i .i64 y.1))]) (fun y=>[.box (x.enc.map .d),.tok 1 (y.2.map encS)]::S)
  (fun y=>y.1<=x.aP.length/\y.2=(mZ x).take y.1/\∀j,∀hj:j<x.aP.length,j<y.1->nG x.aP[j]=true) (fun y=>x.aP.length-y.1) (0,[]) rfl ?_ ⟨an _,rfl,fun j _ h=>by simp only at h;omega⟩ ?_
 ·exact Z1
 rintro⟨i,names⟩ ⟨p1,p2,p3⟩;simp only at p1 p2 p3
 have pl:names.length<=x.aP.length:=by rw[p2];simp[mZ];omega
 refine W1 ?_;refine S0 (fun hb h=>?_) fun hb h=>?_
 ·have hi:i<x.aP.length:=gA
  have hm:=hM _ (ac hi);have hms:=cO.sum x.aP[i]
  have hmv:∀s∈x.aP[i].aG,s.length<=4194304:=fun s h=>by have:=uO h;omega
  refine W3 ?_;refine S0 (fun hb h=>?_) fun hb h=>?_
  ·exact amj i hi (by unfold nG;rw[aO gA];rfl)
  refine W3 ?_;refine C2 (nD x.aP[i].aG 5 gA hmv) ?_;refine S0 (fun hb h=>?_) fun hb h=>?_
  ·refine amj i hi ?_;unfold nG nV
   have:(dec (x.aP[i].aG.length<=5)&&je x.aP[i].aG)=false:=by
    rw[<-h];congr 1;exact iJ ⟨fun h=>gA,fun h=>gA⟩
   rw[<-fW (dec (x.aP[i].aG.length<=5)),this];simp
  have k1:=h;rw[ai] at k1;have k4:=gD k1.1;refine W3 ?_;refine C2 (KT x.aP[i].aG x.aP[i].fBody gA gA) ?_;refine S0 (fun hb h=>?_) fun hb h=>?_
  ·exact amj i hi (by unfold nG nV;rw[h];simp)
  have k2:=h
  have k3:nG x.aP[i]=true:=by unfold nG nV;rw[k2,k1.2,bK gA,bK gA];rfl
  refine W3 ?_;rw[show List.map encS names++[[D.s x.aP[i].fName]]=List.map encS (names++[x.aP[i].fName]) by simp[encS]]
  exact bR 2 gE (i+1,names++[x.aP[i].fName]) gC rfl rfl rfl rfl ⟨gC,by simp only;rw[p2,jk (by simpa [mZ] using hi)];simp[mZ],fun j hj hji=>by
   simp only at hji;by_cases e:j=i
   ·subst e;exact k3
   ·exact p3 j hj gA⟩
 have hi:i=x.aP.length:=gA
 have hn:names=mZ x:=by rw[p2,aE (by simp[mZ];omega)]
 have hall:x.aP.all nG=true:=az.2 fun c hc=>by
  obtain⟨j,hj,e⟩:=ci hc;rw[<-e];exact p3 j hj gA
 have hnl:∀s∈names,s.length<=4194304:=fun s hm=>by
  rw[hn] at hm;obtain⟨g,hg,e⟩:=cr.1 hm;have:=hM g hg;have:=cO.sum g;rw[<-e];omega
 have hlen:names.length=x.aP.length:=by rw[hn];simp[mZ]
 refine C2 (nD names 6 gA hnl) ?_;refine aK ?_;unfold fB;rw[pre,hall,hn,cd];congr 1;rw[<-hn,hlen];exact iJ ⟨fun h=>gA,fun h=>gA⟩
def Cm(P:Program)(N:Nat)(g:St->St):Nat->Code->(Exit->St->Prop)->St->Prop
 |0,c,Q,s=>CW P N c Q (g s)
 |k+1,.seq x y,Q,s=>CW P N x (mG (Cm P N g k y Q) Q) s
 |_,_,_,_=>False
theorem ZK{P:Program}{N:Nat}{g:St->St}{c:Code}{Q:Exit->St->Prop}{s:St}:Cm P N g 0 c Q s=CW P N c Q (g s):=by rw[Cm]
theorem CV{P:Program}{N k:Nat}{g:St->St}{x y:Code}{Q:Exit->St->Prop}{s:St}:Cm P N g (k+1) (.seq x y) Q s=CW P N x (mG (Cm P N g k y Q) Q) s:=by rw[Cm]
theorem amk{P:Program}{N:Nat}{g:St->St}{x y:Code}{Q:Exit->St->Prop}{s:St}:Cm P N g 5 (.seq x y) Q s=CW P N x (mG (Cm P N g 4 y Q) Q) s:=CV
theorem aml{P:Program}{N:Nat}{g:St->St}{x y:Code}{Q:Exit->St->Prop}{s:St}:Cm P N g 4 (.seq x y) Q s=CW P N x (mG (Cm P N g 3 y Q) Q) s:=CV
theorem aiM{P:Program}{N:Nat}{g:St->St}{x y:Code}{Q:Exit->St->Prop}{s:St}:Cm P N g 3 (.seq x y) Q s=CW P N x (mG (Cm P N g 2 y Q) Q) s:=CV
theorem apn{P:Program}{N:Nat}{g:St->St}{x y:Code}{Q:Exit->St->Prop}{s:St}:Cm P N g 2 (.seq x y) Q s=CW P N x (mG (Cm P N g 1 y Q) Q) s:=CV
theorem apo{P:Program}{N:Nat}{g:St->St}{x y:Code}{Q:Exit->St->Prop}{s:St}:Cm P N g 1 (.seq x y) Q s=CW P N x (mG (Cm P N g 0 y Q) Q) s:=CV
attribute [go_sem] ZK amk aml aiM apn apo
theorem VY{P:Program}{N:Nat}{g:St->St}(hg:∀s,iK N s (g s))(gP:P.follows .mixedOrders=true):∀(k:Nat)(c:Code)(Q:Exit->St->Prop)(s:St),codeOk N c=true->Cm P N g k c Q s->AW P N c Q s
 |0,c,Q,s,ok,h=>by
  rw[ZK] at h;exact mO (lG gP c Q _ ok h) (hg s)
 |k+1,.seq x y,Q,s,ok,h=>by
  rw[CV] at h;simp only[codeOk,ai] at ok;refine L6 (AW.mono (lG gP x _ s ok.1 h) fun e s' h'=> ?_)
  cases e with
  |normal=>exact VY hg gP k y Q s' ok.2 h'
  |_=>exact h'
 |k+1,.region ..,_,_,_,h=>h.elim
 |k+1,.cond ..,_,_,_,h=>h.elim
 |k+1,.block ..,_,_,_,h=>h.elim
 |k+1,.exit ..,_,_,_,h=>h.elim
 |k+1,.ret,_,_,_,h=>h.elim
 |k+1,.skip,_,_,_,h=>h.elim
 |k+1,.loop ..,_,_,_,h=>h.elim
theorem Du{P:Program}{S:Store}{N:Nat}(n k n' pos:Nat){f:FuncId}{fn:Func}{c:Code}{args:List V}{post:V->Store->Prop}{rs:List ResultVar}(gP:P.follows .mixedOrders=true)(hf:P.funcs[f]? =some fn)(hN:fn.ntmps=N)
 (hb:fn.body=some c) (hn:(fn.name== "runtime.NumGoroutine")=false) (hr:fn.results.toList=rs) (hl:Nat.ble args.length N=true) (hok:codeOk N c=true)
 (h:Cm P N (GX n') pos c (Zm P n rs post) ⟨mV (args.map (V.up 1)) 0,[.seed n,.seed k]::S⟩):bS P f args S post:=by
 subst hN;subst hr;exact sP hf hb hn (dd hl) (Zr n k (yA (GL n) (VY (JV n') gP pos c _ _ hok h)))
def kX:List UInt8:=[105,110,115,116]
def oJ:List UInt8:=[100,101,102,97,117,108,116]
def kU(x:aQ):List (List UInt8):=if x.ig=true then [oJ] else []
def kV(x:aQ):List ah:=if x.fu=true then [dI x.bP] else []
def pK(m:cO):ah:=bL [bN m.fName,bL (aR m.aG),fG m.fBody]
def ng(x:aQ):List ah:=[bN kX,bN x.bO,bL (aR x.aG),dI x.cB,bL (x.dJ.map rC),bL (aR (kU x)),bL (kV x)]
def qw(x:aQ):ah:=bL (ng x++x.aP.map pK)
noncomputable def CX(x:aQ):ah:=sD (fB x) (qw x)
theorem apq{x:aQ}(h:x.sz<=1048576):(CX x).sz<=1048576:=co (FV _ _) gE
theorem apr(m:cO)(hok:jl m.fBody=true):(pK m).sz<=27+32*m.sz:=by
 have h1:=MV m.fBody hok;have h3:=cO.sum m;rw[dN] at h3;rw[pK,jH];simp[dx,jY,jH,jP,sU];omega
theorem ZL:∀l:List cO,(∀g∈l,jl g.fBody=true)->dx (l.map pK)<=27*l.length+32*aS (l.map cO.enc)
 |[],_=>by simp[dx]
 |c::l,h=>by
  have h1:=apr c (h c (ey ..));have h2:=ZL l fun g hg=>h g (eC _ hg);rw[af,dx,af,aS,aa];simp only[cO.sz] at h1;omega
theorem oK{x:aQ}(h:fB x=true):formed x.cB=true/\(∀b∈x.dJ,formed b.fType=true)/\(x.fu=true->formed x.bP=true)/\(∀m∈x.aP,jl m.fBody=true):=by
 unfold fB xB at h;simp only[ai] at h;obtain⟨⟨_,_,_,h1,_,_,_,h2,h3,_⟩,h4,_⟩:=h;refine⟨xX h1,EY h2,fun ha=> ?_,fun m hm=> ?_⟩
 ·rw[if_pos ha] at h3;exact xX h3
 ·have h5:=az.1 h4 m hm;unfold nG at h5;simp only[ai] at h5;exact Iq h5.2.2
theorem JZ{x:aQ}(hok:fB x=true):(qw x).sz<=96+40*x.sz:=by
 obtain⟨_,_,_,hm⟩:=oK hok;have h1:=ZL x.aP hm;have h2:=Uw x.dJ;have h3:=aQ.sum x;have h4:=D9 x.cB;have h5:=D9 x.bP
 have h6:(kU x).length<=1/\((kU x).map List.length).sum<=7:=by unfold kU;split<;>simp[oJ]
 have h7:(kV x).length<=1/\dx (kV x)<=(dI x.bP).sz:=by unfold kV;split<;>simp[dx]
 rw[dN] at h3;rw[qw,jH,gQ,ae,ab];simp[ng,dx,jY,jH,jP,sU,kX];omega
theorem afO(n:Nat)(a b:List UInt8)(w v:List (List UInt8))(h:ah)(bs zs:List ah):lx [bN a,bN b,bL (aR w),h,bL bs,bL (aR v),bL zs] (n+1)=[[.s a,.ol (n+1) []],[.s b,.ol (n+1+1) []],[.s [],.ol (n+1+1+1) (lx (aR w) (n+1+1+1+1))],[.s h.aI,.ol (n+1+1+1+d9 (bL (aR w))) (lx h.aj (n+1+1+1+d9 (bL (aR w))+1))],[.s [],.ol (n+1+1+1+d9 (bL (aR w))+d9 h) (lx bs (n+1+1+1+d9 (bL (aR w))+d9 h+1))],
 [.s [],.ol (n+1+1+1+d9 (bL (aR w))+d9 h+d9 (bL bs)) (lx (aR v) (n+1+1+1+d9 (bL (aR w))+d9 h+d9 (bL bs)+1))],[.s [],.ol (n+1+1+1+d9 (bL (aR w))+d9 h+d9 (bL bs)+d9 (bL (aR v))) (lx zs (n+1+1+1+d9 (bL (aR w))+d9 h+d9 (bL bs)+d9 (bL (aR v))+1))]]:=by
 simp only[jZ,nU,jM,kM,kN,eF,dD,kI]
theorem ZM(n:Nat)(es:List (List D)):Less (.c (.d (.ol n es))) (.c (.d (.sl es))):=fun w σ S β v h=>⟨vI h.1,h.2⟩
theorem GZ(x:aQ)(n:Nat)(hv:fB x=true)(hsz:x.sz<=1048576):aD prog 78 [x.v] (.agg [.d (.s []),.d (.ol n (lx (qw x).aj (n+1)))]):=fun S=>by
 have hdz:=aQ.sum x;rw[dN] at hdz;obtain⟨hf1,hf2,hf3,Ir⟩:=oK hv;obtain⟨p,hp⟩:∃p:Nat,p=n+1+1+1+d9 (bL (aR x.aG))+d9 (dI x.cB)+d9 (bL (x.dJ.map rC))+d9 (bL (aR (kU x))):=⟨_,rfl⟩;obtain⟨L,hL⟩:∃L:Nat->Nat,L=fun i=>n+1+iY (ng x++(x.aP.map pK).take i):=⟨_,rfl⟩;obtain⟨T,hT⟩:∃T:Nat->List (List D),T=fun i=>lx (ng x++(x.aP.map pK).take i) (n+1):=⟨_,rfl⟩
 have hT0:T 0=[[.s kX,.ol (n+1) []],[.s x.bO,.ol (n+1+1) []],[.s [],.ol (n+1+1+1) (lx (aR x.aG) (n+1+1+1+1))],[.s (dI x.cB).aI,.ol (n+1+1+1+d9 (bL (aR x.aG))) (lx (dI x.cB).aj (n+1+1+1+d9 (bL (aR x.aG))+1))],[.s [],.ol (n+1+1+1+d9 (bL (aR x.aG))+d9 (dI x.cB)) (lx (x.dJ.map rC) (n+1+1+1+d9 (bL (aR x.aG))+d9 (dI x.cB)+1))],[.s [],.ol (n+1+1+1+d9 (bL (aR x.aG))+d9 (dI x.cB)+d9 (bL (x.dJ.map rC))) (lx (aR (kU x)) (n+1+1+1+d9 (bL (aR x.aG))+d9 (dI x.cB)+d9 (bL (x.dJ.map rC))+1))],[.s [],.ol p (lx (kV x) (p+1))]]:=by
  rw[hT,hp];simp only[cE,bm,ng,afO]
 have fZ:∀i,(T i).length<=i+7:=fun i=>by
  rw[hT];simp only[gM,ae];have:=bi i (x.aP.map pK);simp[ng];omega
 have hTs:∀i (hi:i<x.aP.length),T i++[[.s [],.ol (L i) [[.s x.aP[i].fName,.ol (L i+1) []],[.s [],.ol (L i+1+1) (lx (aR x.aP[i].aG) (L i+1+1+1))],[.s (fG x.aP[i].fBody).aI,.ol (L i+1+1+d9 (bL (aR x.aP[i].aG))) (lx (fG x.aP[i].fBody).aj (L i+1+1+d9 (bL (aR x.aP[i].aG))+1))]]]]=T (i+1):=fun i hi=>by
  have:=CB (base:=ng x) (l:=x.aP.map pK) (i:=i) hJ (n+1);rw[bp,pK,eF,dD] at this;simp only[jZ,nU,jM,kM,kN,eF,dD,kI] at this;rw[hT,hL];exact this
 have hTr:∀i,∀r∈T i,r.length=2:=fun i=>by rw[hT];exact lg
 have hTe:T x.aP.length=lx (qw x).aj (n+1):=by
  rw[hT];simp only
  rw[aE gL];rfl
 clear hT hL;refine(show Hold ?T->_ from fun tail=> ?main) ?tp
 case' main=>
  cases ha:x.ig<;>cases hs:x.fu
  ·have hfl:kU x=[]:=by unfold kU;rw[ha];rfl
   have has:kV x=[]:=by unfold kV;rw[hs];rfl
   refine Du (p) 1 (n) 5 (rs:=[.cell 2 26]) zmx func78 ntmps78 rfl rfl rfl rfl rfl ?_;refine YT ?_;refine W3 ?_;refine C1 (dL _ (n+1)) ?_;refine C1 (dL _ (n+1+1)) ?_;refine C1 (eT x.aG gA (n+1+1+1)) ?_;refine C1 (mI x.cB (n+1+1+1+d9 (bL (aR x.aG))) hf1 gA) ?_;refine C1 (xA x.dJ (n+1+1+1+d9 (bL (aR x.aG))+d9 (dI x.cB)) hf2 gA (fun b hb=>by have:=rA hb;omega)) ?_;refine lQ (eT [] gL (n+1+1+1+d9 (bL (aR x.aG))+d9 (dI x.cB)+d9 (bL (x.dJ.map rC)))) (.cons (pE p _) .nil) ?_;refine W1 ?_;refine C1 (oF _ _) ?_;refine W3 ?_;refine lV n 5 2 (T 0) (.inl ?_) (hTr 0) ?_
   ·rw[hT0,hfl,has];rfl
   refine oW (L 0) ?_;refine oD (st':=[.seed (L 0),.seed 1,.box [.d (.s x.bO),.d (.sl (x.aG.map encS)),.d (.i .i64 x.cB.aN),.d (.s x.cB.fName),.d (.sl (x.cB.fArgs.map ak.enc)),.d (.sl (x.dJ.map bQ.enc)),.d (.b x.ig),.d (.b x.fu),.d (.i .i64 x.bP.aN),.d (.s x.bP.fName),.d (.sl (x.bP.fArgs.map ak.enc)),.d (.sl (x.aP.map cO.enc))],.box [.d (.s []),.bH []],.eP n 2 (T 0)]::S) [2,5,42,43,44] [.c (.ptr (0,3) 0),.c (.bJ (0,4) (T 0)),.c (.d (.sl (x.aP.map cO.enc))),.c (.d (.i .i64 x.aP.length)),.c (.d (.i .i64 0))] ?_ ?_ ?_
   ·rfl
   ·rw[ha,hs];rfl
   ·exact tail.out
  ·have hfl:kU x=[]:=by unfold kU;rw[ha];rfl
   have has:kV x=[dI x.bP]:=by unfold kV;rw[hs];rfl
   refine Du (p) 1 (n) 5 (rs:=[.cell 2 26]) zmx func78 ntmps78 rfl rfl rfl rfl rfl ?_;refine YT ?_;refine W3 ?_;refine C1 (mI x.bP (p+1) (hf3 hs) gA) ?_;refine W3 ?_;refine C1 (dL _ (n+1)) ?_;refine C1 (dL _ (n+1+1)) ?_;refine C1 (eT x.aG gA (n+1+1+1)) ?_;refine C1 (mI x.cB (n+1+1+1+d9 (bL (aR x.aG))) hf1 gA) ?_;refine C1 (xA x.dJ (n+1+1+1+d9 (bL (aR x.aG))+d9 (dI x.cB)) hf2 gA (fun b hb=>by have:=rA hb;omega)) ?_;refine lQ (eT [] gL (n+1+1+1+d9 (bL (aR x.aG))+d9 (dI x.cB)+d9 (bL (x.dJ.map rC)))) (.cons (pE p _) .nil) ?_;refine W1 ?_;refine C1 (lS _) ?_;refine W3 ?_;refine lV n 5 2 (T 0) (.inl ?_) (hTr 0) ?_
   ·rw[hT0,hfl,has,jZ,nU,jM];rfl
   refine oW (L 0) ?_;refine oD (st':=[.seed (L 0),.seed 1,.box [.d (.s x.bO),.d (.sl (x.aG.map encS)),.d (.i .i64 x.cB.aN),.d (.s x.cB.fName),.d (.sl (x.cB.fArgs.map ak.enc)),.d (.sl (x.dJ.map bQ.enc)),.d (.b x.ig),.d (.b x.fu),.d (.i .i64 x.bP.aN),.d (.s x.bP.fName),.d (.sl (x.bP.fArgs.map ak.enc)),.d (.sl (x.aP.map cO.enc))],.box [.d (.s []),.bH []],.eP n 2 (T 0)]::S) [2,5,42,43,44] [.c (.ptr (0,3) 0),.c (.bJ (0,4) (T 0)),.c (.d (.sl (x.aP.map cO.enc))),.c (.d (.i .i64 x.aP.length)),.c (.d (.i .i64 0))] ?_ ?_ ?_
   ·rfl
   ·rw[ha,hs];rfl
   ·exact tail.out
  ·have hfl:kU x=[oJ]:=by unfold kU;rw[ha];rfl
   have has:kV x=[]:=by unfold kV;rw[hs];rfl
   refine Du (p) 1 (n) 5 (rs:=[.cell 2 26]) zmx func78 ntmps78 rfl rfl rfl rfl rfl ?_;refine YT ?_;refine W3 ?_;refine C1 (dL _ (n+1)) ?_;refine C1 (dL _ (n+1+1)) ?_;refine C1 (eT x.aG gA (n+1+1+1)) ?_;refine C1 (mI x.cB (n+1+1+1+d9 (bL (aR x.aG))) hf1 gA) ?_;refine C1 (xA x.dJ (n+1+1+1+d9 (bL (aR x.aG))+d9 (dI x.cB)) hf2 gA (fun b hb=>by have:=rA hb;omega)) ?_;refine lQ (eT [oJ] gL (n+1+1+1+d9 (bL (aR x.aG))+d9 (dI x.cB)+d9 (bL (x.dJ.map rC)))) (.cons (ZM p _) .nil) ?_;refine W1 ?_;refine C1 (oF _ _) ?_;refine W3 ?_;refine lV n 5 2 (T 0) (.inl ?_) (hTr 0) ?_
   ·rw[hT0,hfl,has];rfl
   refine oW (L 0) ?_;refine oD (st':=[.seed (L 0),.seed 1,.box [.d (.s x.bO),.d (.sl (x.aG.map encS)),.d (.i .i64 x.cB.aN),.d (.s x.cB.fName),.d (.sl (x.cB.fArgs.map ak.enc)),.d (.sl (x.dJ.map bQ.enc)),.d (.b x.ig),.d (.b x.fu),.d (.i .i64 x.bP.aN),.d (.s x.bP.fName),.d (.sl (x.bP.fArgs.map ak.enc)),.d (.sl (x.aP.map cO.enc))],.box [.d (.s []),.bH []],.eP n 2 (T 0)]::S) [2,5,42,43,44] [.c (.ptr (0,3) 0),.c (.bJ (0,4) (T 0)),.c (.d (.sl (x.aP.map cO.enc))),.c (.d (.i .i64 x.aP.length)),.c (.d (.i .i64 0))] ?_ ?_ ?_
   ·rfl
   ·rw[ha,hs];rfl
   ·exact tail.out
  ·have hfl:kU x=[oJ]:=by unfold kU;rw[ha];rfl
   have has:kV x=[dI x.bP]:=by unfold kV;rw[hs];rfl
   refine Du (p) 1 (n) 5 (rs:=[.cell 2 26]) zmx func78 ntmps78 rfl rfl rfl rfl rfl ?_;refine YT ?_;refine W3 ?_;refine C1 (mI x.bP (p+1) (hf3 hs) gA) ?_;refine W3 ?_;refine C1 (dL _ (n+1)) ?_;refine C1 (dL _ (n+1+1)) ?_;refine C1 (eT x.aG gA (n+1+1+1)) ?_;refine C1 (mI x.cB (n+1+1+1+d9 (bL (aR x.aG))) hf1 gA) ?_;refine C1 (xA x.dJ (n+1+1+1+d9 (bL (aR x.aG))+d9 (dI x.cB)) hf2 gA (fun b hb=>by have:=rA hb;omega)) ?_;refine lQ (eT [oJ] gL (n+1+1+1+d9 (bL (aR x.aG))+d9 (dI x.cB)+d9 (bL (x.dJ.map rC)))) (.cons (ZM p _) .nil) ?_;refine W1 ?_;refine C1 (lS _) ?_;refine W3 ?_;refine lV n 5 2 (T 0) (.inl ?_) (hTr 0) ?_
   ·rw[hT0,hfl,has,jZ,nU,jM];rfl
   refine oW (L 0) ?_;refine oD (st':=[.seed (L 0),.seed 1,.box [.d (.s x.bO),.d (.sl (x.aG.map encS)),.d (.i .i64 x.cB.aN),.d (.s x.cB.fName),.d (.sl (x.cB.fArgs.map ak.enc)),.d (.sl (x.dJ.map bQ.enc)),.d (.b x.ig),.d (.b x.fu),.d (.i .i64 x.bP.aN),.d (.s x.bP.fName),.d (.sl (x.bP.fArgs.map ak.enc)),.d (.sl (x.aP.map cO.enc))],.box [.d (.s []),.bH []],.eP n 2 (T 0)]::S) [2,5,42,43,44] [.c (.ptr (0,3) 0),.c (.bJ (0,4) (T 0)),.c (.d (.sl (x.aP.map cO.enc))),.c (.d (.i .i64 x.aP.length)),.c (.d (.i .i64 0))] ?_ ?_ ?_
   ·rfl
   ·rw[ha,hs];rfl
   ·exact tail.out
 refine⟨?_⟩
 refine aZ (ι:=Nat) zmx rfl [2,5,42,43,44] (fun i=>[.c (.ptr (0,3) 0),.c (.bJ (0,4) (T i)),.c (.d (.sl (x.aP.map cO.enc))),.c (.d (.i .i64 x.aP.length)),.c (.d (.i .i64 i))])
  (fun i=>[.seed (L i),.seed 1,.box [.d (.s x.bO),.d (.sl (x.aG.map encS)),.d (.i .i64 x.cB.aN),.d (.s x.cB.fName),.d (.sl (x.cB.fArgs.map ak.enc)),.d (.sl (x.dJ.map bQ.enc)),.d (.b x.ig),.d (.b x.fu),.d (.i .i64 x.bP.aN),.d (.s x.bP.fName),.d (.sl (x.bP.fArgs.map ak.enc)),.d (.sl (x.aP.map cO.enc))],.box [.d (.s []),.bH []],.eP n 2 (T i)]::S)
  (fun i=>i<=x.aP.length) (fun i=>x.aP.length-i) 0 rfl rfl (an _) ?_
 intro i hi;have hl:=fZ i;refine W1 ?_;refine S0 (fun hb h=>?_) fun hb h=>?_
 ·have hi':i<x.aP.length:=gA
  have hm:=ac hi';have hcz:=CU hm;have hce:=cO.sum x.aP[i];rw[dN] at hce;have hst:=hTs i hi';refine W3 ?_;refine C1 (dL _ (L i+1)) ?_;refine C1 (eT x.aP[i].aG gA (L i+1+1)) ?_;refine C1 (BM x.aP[i].fBody (L i+1+1+d9 (bL (aR x.aP[i].aG))) (Ir _ hm) gA) ?_;refine W3 ?_;refine C1 (oF _ _) ?_;refine W3 ?_;rw[hst];refine lH (L (i+1)) 4 gE (i+1) gA rfl rfl ?_ rfl gA;simp[jh,iy,V.refs,C.refs,kR]
 ·have hi':i=x.aP.length:=gA
  refine bD rfl (kP 0 4 _ _) ?_;refine W1 ?_;rw[hi',hTe]
theorem amm(x:aQ)(hv:fB x=true)(hsz:x.sz<=1048576)(ha:x.ig=true)(hs:x.fu=true):aD prog 43 [x.v] (vQ (qw x)).v:=fun S=>by
 have hdz:=aQ.sum x;rw[dN] at hdz;obtain⟨hf1,hf2,hf3,Ir⟩:=oK hv;have hz:=JZ hv
 have hfl:kU x=[oJ]:=by unfold kU;rw[ha];rfl
 have has:kV x=[dI x.bP]:=by unfold kV;rw[hs];rfl
 obtain⟨T,hT⟩:∃T:Nat->List (List D),T=fun i=>(ng x++(x.aP.map pK).take i).map ah.enc:=⟨_,rfl⟩
 have hT0:T 0=[[.s kX,.sl []],[.s x.bO,.sl []],[.s [],.sl ((aR x.aG).map ah.enc)],[.s (dI x.cB).aI,.sl ((dI x.cB).aj.map ah.enc)],[.s [],.sl ((x.dJ.map rC).map ah.enc)],[.s [],.sl ((aR [oJ]).map ah.enc)],[.s [],.sl [[.s (dI x.bP).aI,.sl ((dI x.bP).aj.map ah.enc)]]]]:=by
  rw[hT];simp only[cE,bm,ng,hfl,has,af,aw,fI,jV,ah.aC (dI x.cB),ah.aC (dI x.bP)]
 have fZ:∀i,(T i).length<=i+7:=fun i=>by
  rw[hT];simp only[ab,ae];have:=bi i (x.aP.map pK);simp[ng];omega
 have hTs:∀i (hi:i<x.aP.length),T i++[[.s [],.sl [[.s x.aP[i].fName,.sl []],[.s [],.sl ((aR x.aP[i].aG).map ah.enc)],[.s (fG x.aP[i].fBody).aI,.sl ((fG x.aP[i].fBody).aj.map ah.enc)]]]]=T (i+1):=fun i hi=>by
  have:=jI (base:=ng x) (l:=x.aP.map pK) (i:=i) hJ;rw[bp,pK,eF,dD] at this;simp only[af,aw,fI,jV,ah.aC (fG x.aP[i].fBody)] at this;rw[hT];exact this
 have hTr:∀i,∀r∈T i,r.length=2:=fun i=>by rw[hT];exact gK
 have hTe:T x.aP.length=(qw x).aj.map ah.enc:=by
  rw[hT];simp only
  rw[aE gL];rfl
 clear hT;refine zcx [.cell 2 26] func43 ntmps43 ?_;refine W1 ?_;refine bn (qh x gA) ?_;refine YU ?_;refine W3 ?_;refine C1 (mX x.bP gA) ?_;refine W3 ?_;refine C1 (oq _ gL gL) ?_;refine W3 ?_;refine C1 (bW _) ?_;refine C1 (bW _) ?_;refine C1 (eG x.aG gA) ?_;refine C1 (mX x.cB gA) ?_;refine C1 (yP x.dJ gA (fun b hb=>by have:=rA hb;omega)) ?_;refine C1 (eG [oJ] gL) ?_;have hE:=fun bY Ω=>kD (T 0) (hTr 0) (by have:=fZ 0;omega) bY Ω;simp only[hT0] at hE;refine dX [false] rfl (hE _ _) ?_;refine W1 ?_
 refine aZ (ι:=Nat) zmx rfl [1,2,5,6] (fun i=>[.c (.ptr (0,0) 0),.c (.ptr (0,1) 0),.c (.ptr (0,6) 0),.c (.d (.i .i64 i))])
  (fun i=>[.box [.d (.s x.bO),.d (.sl (x.aG.map encS)),.d (.i .i64 x.cB.aN),.d (.s x.cB.fName),.d (.sl (x.cB.fArgs.map ak.enc)),.d (.sl (x.dJ.map bQ.enc)),.d (.b true),.d (.b true),.d (.i .i64 x.bP.aN),.d (.s x.bP.fName),.d (.sl (x.bP.fArgs.map ak.enc)),.d (.sl (x.aP.map cO.enc))],.box [.d (.s []),.bH []],.tok 1 [[.s oJ]],.box [.d (.s []),.d (.sl [[.s (dI x.bP).aI,.sl ((dI x.bP).aj.map ah.enc)]])],.box [.d (.s []),.bJ (0,5) (T 0)],.tok 2 (T i),.box [.d (.s []),.bJ (0,5) (T i)]]::S)
  (fun i=>i<=x.aP.length) (fun i=>x.aP.length-i) 0 rfl (by simp only[hT0]<;>(try rfl)) (an _) ?_
 intro i hi;have hl:=fZ i;refine W1 ?_;refine S0 (fun hb h=>?_) fun hb h=>?_
 ·have hi':i<x.aP.length:=gA
  have hm:=ac hi';have hcz:=CU hm;have hce:=cO.sum x.aP[i];rw[dN] at hce;have hst:=hTs i hi';refine W3 ?_;refine C1 (bW _) ?_;refine C1 (eG x.aP[i].aG gA) ?_;refine C1 (wz x.aP[i].fBody (Ir _ hm) gA) ?_;refine C1 (oq _ gL gL) ?_;refine W3 ?_;rw[hst];exact bR 7 gE (i+1) gA rfl rfl rfl rfl gA
 ·have hi':i=x.aP.length:=gA
  subst hi';rw[hTe];refine C1 (sW true (qw x) gA) ?_;rfl
theorem amn(x:aQ)(hv:fB x=true)(hsz:x.sz<=1048576)(ha:x.ig=true)(hs:x.fu=false):aD prog 43 [x.v] (vQ (qw x)).v:=fun S=>by
 have hdz:=aQ.sum x;rw[dN] at hdz;obtain⟨hf1,hf2,hf3,Ir⟩:=oK hv;have hz:=JZ hv
 have hfl:kU x=[oJ]:=by unfold kU;rw[ha];rfl
 have has:kV x=[]:=by unfold kV;rw[hs];rfl
 obtain⟨T,hT⟩:∃T:Nat->List (List D),T=fun i=>(ng x++(x.aP.map pK).take i).map ah.enc:=⟨_,rfl⟩
 have hT0:T 0=[[.s kX,.sl []],[.s x.bO,.sl []],[.s [],.sl ((aR x.aG).map ah.enc)],[.s (dI x.cB).aI,.sl ((dI x.cB).aj.map ah.enc)],[.s [],.sl ((x.dJ.map rC).map ah.enc)],[.s [],.sl ((aR [oJ]).map ah.enc)],[.s [],.sl []]]:=by
  rw[hT];simp only[cE,bm,ng,hfl,has,af,aw,fI,jV,ah.aC (dI x.cB),ah.aC (dI x.bP)]
 have fZ:∀i,(T i).length<=i+7:=fun i=>by
  rw[hT];simp only[ab,ae];have:=bi i (x.aP.map pK);simp[ng];omega
 have hTs:∀i (hi:i<x.aP.length),T i++[[.s [],.sl [[.s x.aP[i].fName,.sl []],[.s [],.sl ((aR x.aP[i].aG).map ah.enc)],[.s (fG x.aP[i].fBody).aI,.sl ((fG x.aP[i].fBody).aj.map ah.enc)]]]]=T (i+1):=fun i hi=>by
  have:=jI (base:=ng x) (l:=x.aP.map pK) (i:=i) hJ;rw[bp,pK,eF,dD] at this;simp only[af,aw,fI,jV,ah.aC (fG x.aP[i].fBody)] at this;rw[hT];exact this
 have hTr:∀i,∀r∈T i,r.length=2:=fun i=>by rw[hT];exact gK
 have hTe:T x.aP.length=(qw x).aj.map ah.enc:=by
  rw[hT];simp only
  rw[aE gL];rfl
 clear hT;refine zcx [.cell 2 26] func43 ntmps43 ?_;refine W1 ?_;refine bn (qh x gA) ?_;refine YU ?_;refine W3 ?_;refine C1 (bW _) ?_;refine C1 (bW _) ?_;refine C1 (eG x.aG gA) ?_;refine C1 (mX x.cB gA) ?_;refine C1 (yP x.dJ gA (fun b hb=>by have:=rA hb;omega)) ?_;refine C1 (eG [oJ] gL) ?_;have hE:=fun bY Ω=>kD (T 0) (hTr 0) (by have:=fZ 0;omega) bY Ω;simp only[hT0] at hE;refine dX [false] rfl (hE _ _) ?_;refine W1 ?_
 refine aZ (ι:=Nat) zmx rfl [1,2,5,6] (fun i=>[.c (.ptr (0,0) 0),.c (.ptr (0,1) 0),.c (.ptr (0,6) 0),.c (.d (.i .i64 i))])
  (fun i=>[.box [.d (.s x.bO),.d (.sl (x.aG.map encS)),.d (.i .i64 x.cB.aN),.d (.s x.cB.fName),.d (.sl (x.cB.fArgs.map ak.enc)),.d (.sl (x.dJ.map bQ.enc)),.d (.b true),.d (.b false),.d (.i .i64 x.bP.aN),.d (.s x.bP.fName),.d (.sl (x.bP.fArgs.map ak.enc)),.d (.sl (x.aP.map cO.enc))],.box [.d (.s []),.bH []],.tok 1 [[.s oJ]],.box [.d (.s []),.bH []],.box [.d (.s []),.bJ (0,5) (T 0)],.tok 2 (T i),.box [.d (.s []),.bJ (0,5) (T i)]]::S)
  (fun i=>i<=x.aP.length) (fun i=>x.aP.length-i) 0 rfl (by simp only[hT0]<;>(try rfl)) (an _) ?_
 intro i hi;have hl:=fZ i;refine W1 ?_;refine S0 (fun hb h=>?_) fun hb h=>?_
 ·have hi':i<x.aP.length:=gA
  have hm:=ac hi';have hcz:=CU hm;have hce:=cO.sum x.aP[i];rw[dN] at hce;have hst:=hTs i hi';refine W3 ?_;refine C1 (bW _) ?_;refine C1 (eG x.aP[i].aG gA) ?_;refine C1 (wz x.aP[i].fBody (Ir _ hm) gA) ?_;refine C1 (oq _ gL gL) ?_;refine W3 ?_;rw[hst];exact bR 7 gE (i+1) gA rfl rfl rfl rfl gA
 ·have hi':i=x.aP.length:=gA
  subst hi';rw[hTe];refine C1 (sW true (qw x) gA) ?_;rfl
theorem amo(x:aQ)(hv:fB x=true)(hsz:x.sz<=1048576)(ha:x.ig=false)(hs:x.fu=true):aD prog 43 [x.v] (vQ (qw x)).v:=fun S=>by
 have hdz:=aQ.sum x;rw[dN] at hdz;obtain⟨hf1,hf2,hf3,Ir⟩:=oK hv;have hz:=JZ hv
 have hfl:kU x=[]:=by unfold kU;rw[ha];rfl
 have has:kV x=[dI x.bP]:=by unfold kV;rw[hs];rfl
 obtain⟨T,hT⟩:∃T:Nat->List (List D),T=fun i=>(ng x++(x.aP.map pK).take i).map ah.enc:=⟨_,rfl⟩
 have hT0:T 0=[[.s kX,.sl []],[.s x.bO,.sl []],[.s [],.sl ((aR x.aG).map ah.enc)],[.s (dI x.cB).aI,.sl ((dI x.cB).aj.map ah.enc)],[.s [],.sl ((x.dJ.map rC).map ah.enc)],[.s [],.sl ((aR []).map ah.enc)],[.s [],.sl [[.s (dI x.bP).aI,.sl ((dI x.bP).aj.map ah.enc)]]]]:=by
  rw[hT];simp only[cE,bm,ng,hfl,has,af,aw,fI,jV,ah.aC (dI x.cB),ah.aC (dI x.bP)]
 have fZ:∀i,(T i).length<=i+7:=fun i=>by
  rw[hT];simp only[ab,ae];have:=bi i (x.aP.map pK);simp[ng];omega
 have hTs:∀i (hi:i<x.aP.length),T i++[[.s [],.sl [[.s x.aP[i].fName,.sl []],[.s [],.sl ((aR x.aP[i].aG).map ah.enc)],[.s (fG x.aP[i].fBody).aI,.sl ((fG x.aP[i].fBody).aj.map ah.enc)]]]]=T (i+1):=fun i hi=>by
  have:=jI (base:=ng x) (l:=x.aP.map pK) (i:=i) hJ;rw[bp,pK,eF,dD] at this;simp only[af,aw,fI,jV,ah.aC (fG x.aP[i].fBody)] at this;rw[hT];exact this
 have hTr:∀i,∀r∈T i,r.length=2:=fun i=>by rw[hT];exact gK
 have hTe:T x.aP.length=(qw x).aj.map ah.enc:=by
  rw[hT];simp only
  rw[aE gL];rfl
 clear hT;refine zcx [.cell 2 26] func43 ntmps43 ?_;refine W1 ?_;refine bn (qh x gA) ?_;refine YU ?_;refine W3 ?_;refine C1 (mX x.bP gA) ?_;refine W3 ?_;refine C1 (oq _ gL gL) ?_;refine W3 ?_;refine C1 (bW _) ?_;refine C1 (bW _) ?_;refine C1 (eG x.aG gA) ?_;refine C1 (mX x.cB gA) ?_;refine C1 (yP x.dJ gA (fun b hb=>by have:=rA hb;omega)) ?_;refine C1 (eG [] gL) ?_;have hE:=fun bY Ω=>kD (T 0) (hTr 0) (by have:=fZ 0;omega) bY Ω;simp only[hT0] at hE;refine dX [false] rfl (hE _ _) ?_;refine W1 ?_
 refine aZ (ι:=Nat) zmx rfl [1,2,5,6] (fun i=>[.c (.ptr (0,0) 0),.c (.ptr (0,1) 0),.c (.ptr (0,5) 0),.c (.d (.i .i64 i))])
  (fun i=>[.box [.d (.s x.bO),.d (.sl (x.aG.map encS)),.d (.i .i64 x.cB.aN),.d (.s x.cB.fName),.d (.sl (x.cB.fArgs.map ak.enc)),.d (.sl (x.dJ.map bQ.enc)),.d (.b false),.d (.b true),.d (.i .i64 x.bP.aN),.d (.s x.bP.fName),.d (.sl (x.bP.fArgs.map ak.enc)),.d (.sl (x.aP.map cO.enc))],.box [.d (.s []),.bH []],.box [.d (.s []),.d (.sl [[.s (dI x.bP).aI,.sl ((dI x.bP).aj.map ah.enc)]])],.box [.d (.s []),.bJ (0,4) (T 0)],.tok 2 (T i),.box [.d (.s []),.bJ (0,4) (T i)]]::S)
  (fun i=>i<=x.aP.length) (fun i=>x.aP.length-i) 0 rfl (by simp only[hT0]<;>(try rfl)) (an _) ?_
 intro i hi;have hl:=fZ i;refine W1 ?_;refine S0 (fun hb h=>?_) fun hb h=>?_
 ·have hi':i<x.aP.length:=gA
  have hm:=ac hi';have hcz:=CU hm;have hce:=cO.sum x.aP[i];rw[dN] at hce;have hst:=hTs i hi';refine W3 ?_;refine C1 (bW _) ?_;refine C1 (eG x.aP[i].aG gA) ?_;refine C1 (wz x.aP[i].fBody (Ir _ hm) gA) ?_;refine C1 (oq _ gL gL) ?_;refine W3 ?_;rw[hst];exact bR 6 gE (i+1) gA rfl rfl rfl rfl gA
 ·have hi':i=x.aP.length:=gA
  subst hi';rw[hTe];refine C1 (sW true (qw x) gA) ?_;rfl
theorem amq(x:aQ)(hv:fB x=true)(hsz:x.sz<=1048576)(ha:x.ig=false)(hs:x.fu=false):aD prog 43 [x.v] (vQ (qw x)).v:=fun S=>by
 have hdz:=aQ.sum x;rw[dN] at hdz;obtain⟨hf1,hf2,hf3,Ir⟩:=oK hv;have hz:=JZ hv
 have hfl:kU x=[]:=by unfold kU;rw[ha];rfl
 have has:kV x=[]:=by unfold kV;rw[hs];rfl
 obtain⟨T,hT⟩:∃T:Nat->List (List D),T=fun i=>(ng x++(x.aP.map pK).take i).map ah.enc:=⟨_,rfl⟩
 have hT0:T 0=[[.s kX,.sl []],[.s x.bO,.sl []],[.s [],.sl ((aR x.aG).map ah.enc)],[.s (dI x.cB).aI,.sl ((dI x.cB).aj.map ah.enc)],[.s [],.sl ((x.dJ.map rC).map ah.enc)],[.s [],.sl ((aR []).map ah.enc)],[.s [],.sl []]]:=by
  rw[hT];simp only[cE,bm,ng,hfl,has,af,aw,fI,jV,ah.aC (dI x.cB),ah.aC (dI x.bP)]
 have fZ:∀i,(T i).length<=i+7:=fun i=>by
  rw[hT];simp only[ab,ae];have:=bi i (x.aP.map pK);simp[ng];omega
 have hTs:∀i (hi:i<x.aP.length),T i++[[.s [],.sl [[.s x.aP[i].fName,.sl []],[.s [],.sl ((aR x.aP[i].aG).map ah.enc)],[.s (fG x.aP[i].fBody).aI,.sl ((fG x.aP[i].fBody).aj.map ah.enc)]]]]=T (i+1):=fun i hi=>by
  have:=jI (base:=ng x) (l:=x.aP.map pK) (i:=i) hJ;rw[bp,pK,eF,dD] at this;simp only[af,aw,fI,jV,ah.aC (fG x.aP[i].fBody)] at this;rw[hT];exact this
 have hTr:∀i,∀r∈T i,r.length=2:=fun i=>by rw[hT];exact gK
 have hTe:T x.aP.length=(qw x).aj.map ah.enc:=by
  rw[hT];simp only
  rw[aE gL];rfl
 clear hT;refine zcx [.cell 2 26] func43 ntmps43 ?_;refine W1 ?_;refine bn (qh x gA) ?_;refine YU ?_;refine W3 ?_;refine C1 (bW _) ?_;refine C1 (bW _) ?_;refine C1 (eG x.aG gA) ?_;refine C1 (mX x.cB gA) ?_;refine C1 (yP x.dJ gA (fun b hb=>by have:=rA hb;omega)) ?_;refine C1 (eG [] gL) ?_;have hE:=fun bY Ω=>kD (T 0) (hTr 0) (by have:=fZ 0;omega) bY Ω;simp only[hT0] at hE;refine dX [false] rfl (hE _ _) ?_;refine W1 ?_
 refine aZ (ι:=Nat) zmx rfl [1,2,5,6] (fun i=>[.c (.ptr (0,0) 0),.c (.ptr (0,1) 0),.c (.ptr (0,5) 0),.c (.d (.i .i64 i))])
  (fun i=>[.box [.d (.s x.bO),.d (.sl (x.aG.map encS)),.d (.i .i64 x.cB.aN),.d (.s x.cB.fName),.d (.sl (x.cB.fArgs.map ak.enc)),.d (.sl (x.dJ.map bQ.enc)),.d (.b false),.d (.b false),.d (.i .i64 x.bP.aN),.d (.s x.bP.fName),.d (.sl (x.bP.fArgs.map ak.enc)),.d (.sl (x.aP.map cO.enc))],.box [.d (.s []),.bH []],.box [.d (.s []),.bH []],.box [.d (.s []),.bJ (0,4) (T 0)],.tok 2 (T i),.box [.d (.s []),.bJ (0,4) (T i)]]::S)
  (fun i=>i<=x.aP.length) (fun i=>x.aP.length-i) 0 rfl (by simp only[hT0]<;>(try rfl)) (an _) ?_
 intro i hi;have hl:=fZ i;refine W1 ?_;refine S0 (fun hb h=>?_) fun hb h=>?_
 ·have hi':i<x.aP.length:=gA
  have hm:=ac hi';have hcz:=CU hm;have hce:=cO.sum x.aP[i];rw[dN] at hce;have hst:=hTs i hi';refine W3 ?_;refine C1 (bW _) ?_;refine C1 (eG x.aP[i].aG gA) ?_;refine C1 (wz x.aP[i].fBody (Ir _ hm) gA) ?_;refine C1 (oq _ gL gL) ?_;refine W3 ?_;rw[hst];exact bR 6 gE (i+1) gA rfl rfl rfl rfl gA
 ·have hi':i=x.aP.length:=gA
  subst hi';rw[hTe];refine C1 (sW true (qw x) gA) ?_;rfl
theorem Qp(x:aQ)(hsz:x.sz<=1048576):aD prog 43 [x.v] (CX x).v:=by
 unfold CX
 cases hv:fB x with
 |false=>
  rw[sD];refine aD.less (fun S=> ?_) (CF [] []);refine zcx [.cell 2 26] func43 ntmps43 ?_;refine W1 ?_;refine bn (qh x gA) ?_;exact Rt
 |true=>
  rw[sD]
  cases ha:x.ig with
  |true=>
   cases hs:x.fu with
   |true=>exact amm x hv hsz ha hs
   |false=>exact amn x hv hsz ha hs
  |false=>
   cases hs:x.fu with
   |true=>exact amo x hv hsz ha hs
   |false=>exact amq x hv hsz ha hs
end Go.Ab