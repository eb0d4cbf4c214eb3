/-
  SEVERAL TEXTS IN ONE (merged by program): contracts and models, each with its own heading.
-/
import Derived.Test.YtlaaknnkeidlbaaGreatDoorPartDmbN
set_option maxHeartbeats 8000000
open Go.Proofs Go.Proofs.Tryz
set_option linter.unusedSimpArgs false
set_option linter.unusedVariables false
set_option maxRecDepth 4000
namespace Go.Ab
noncomputable def mI(m:cO):Bool:=dec (1<=m.aH.length)&&(dec (m.aH.length<=5)&&nu m.aH m.fBody)
noncomputable def l9(x:aS):List (List UInt8):=x.aN.map cO.fName
noncomputable def vQ(x:aS):Bool:=validName x.bO&&(dec (x.aH.length<=3)&&(iI x.aH&&(gU x.aH x.bY&&(!r9 x.bY&&(dec (x.bY.aM=2\/x.bY.aM=1)&&(among x.aH (jE [] x.bY)&&(qz x.aH x.dI&&((if x.fJ=true then gU x.aH x.bR else dec (yG x.bR))&&dec (x.aN.length<=6)))))))))
noncomputable def eX(x:aS):Bool:=vQ x&&(x.aN.all mI&&iI (l9 x))
theorem aS.sum(x:aS):x.bO.length+(x.aH.length+aP (x.aH.map encS))+x.bY.sz+(x.dI.length+aP (x.dI.map bW.enc))+x.bR.sz+(x.aN.length+aP (x.aN.map cO.enc))<=x.sz:=by
 simp only[aS.sz,aS.aJ,bQ,bP,D.sz,List.length_map,ak.dP];omega
theorem cO.sum(x:cO):x.fName.length+(x.aH.length+aP (x.aH.map encS))+x.fBody.sz<=x.sz:=by
 simp only[cO.sz,cO.aJ,bQ,bP,D.sz,List.length_map,ay.dP];omega
theorem Bb{xs:List cO}{t:cO}(h:t∈xs):t.sz<=aP (xs.map cO.enc):=dz (List.mem_map_of_mem h)
theorem Tv(v:List UInt8):∀(us:List ak)(out:List (List UInt8)),v∈us.foldl wB out<->v∈out\/0<us.countP (Pq v)
 |[],out=>by simp
 |u::us,out=>by
  rw[List.foldl_cons,Tv v us,List.countP_cons]
  have h:v∈wB out u<->v∈out\/Pq v u=true:=by
   unfold wB Pq;split
   ·rename_i h;simp only[List.mem_append,List.mem_singleton];constructor
    ·rintro(h1|h1)
     ·exact .inl h1
     ·right;simp[h1,h.1]
    ·rintro(h1|h1)
     ·exact .inl h1
     ·right;simp at h1;exact h1.2.symm
   ·rename_i h;constructor
    ·exact .inl
    ·rintro(h1|h1)
     ·exact h1
     ·simp at h1;by_cases e:u.fName∈out
      ·rw[<-h1.2];exact e
      ·exact absurd ⟨h1.1,e⟩ h
  rw[h]
  cases Pq v u<;>simp
theorem acE(v:List UInt8)(t:ak):occurs v t=dec (v∈jE [] t):=by
 unfold occurs jE rT;rw[lH];exact iO (by rw[Tv];simp)
theorem acF{t:ak}(h:nZ t=true):t.aM=1\/t.aM=2\/t.aM=3\/t.aM=4:=by
 have h1:=(gJ h).1;rw[zi,Bool.and_eq_true] at h1;have h2:=gJ h1.1;omega
theorem afx{t:ak}(h:r9 t=false):t.aM≠3:=by
 rw[IB] at h;intro e;simp[e] at h
theorem EN(x:aS)(hsz:x.sz<=4194304):aF prog 59 [x.v] (.c (.d (.b (eX x)))):=fun S=>by
 have hs:=aS.sum x
 have hV:∀s∈x.aH,s.length<=4194304:=fun s h=>by have:=sP h;omega
 have hW:∀b∈x.dI,b.sz<=4194304:=fun b h=>by have:=qg h;omega
 have hM:∀m∈x.aN,m.sz<=4194304:=fun m h=>by have:=Bb h;omega
 have no:vQ x=false->V.c (.d (.b false))=V.c (.d (.b (eX x))):=fun h=>aI (by unfold eX;rw[h];rfl);refine(show Hold (vQ x=true-> ?T)->_ from fun tail=> ?main) ?tp
 case' main=>
  refine zcx [.tmp 2] func59 ntmps59 ?_;refine W1 ?_
  repeat' (first
   |refine S0 (fun hb h=>?_) fun hb h=>?_
   |((with_reducible show fB _ _ 53 _ _ _ _);refine bD (iy x.bO (by omega)) ?_;refine W1 ?_)
   |((with_reducible show fB _ _ 54 _ _ _ _);refine bD (oQ x.aH (by omega) hV) ?_;refine W1 ?_)
   |((with_reducible show fB _ _ 145 _ _ _ _);refine bD (vK x.bY x.aH (by omega) (by omega)) ?_;refine W1 ?_)
   |((with_reducible show fB _ _ 145 _ _ _ _);refine bD (vK x.bR x.aH (by omega) (by omega)) ?_;refine W1 ?_)
   |((with_reducible show fB _ _ 146 _ _ _ _);refine bD (GR x.bY (by omega)) ?_;refine W1 ?_)
   |((with_reducible show fB _ _ 148 _ _ _ _);refine bD (z8 x.bY (by omega)) ?_;refine W1 ?_)
   |((with_reducible show fB _ _ 147 _ _ _ _);refine bD (Bv x.aH (jE [] x.bY) (by omega) (Qd _ (by omega))) ?_;refine W1 ?_)
   |((with_reducible show fB _ _ 149 _ _ _ _);refine bD (KD x.dI x.aH (by omega) hW (by omega)) ?_;refine W1 ?_)
   |((with_reducible show fB _ _ 150 _ _ _ _);refine bD (Js x.bR) ?_;refine W1 ?_)
   |(refine no ?_;unfold vQ;grind [gJ,jo,bM,aR]))
  all_goals
   have hh:vQ x=true:=by unfold vQ;grind [gJ,jo,bM,aR]
   refine W3 ?_;refine qG 3 1 [] rfl (by simp) ?_;refine qx (st':=[.box (x.enc.map .d),.tok 1 []]::S) [3,91,92,93] [.c (.bI (0,1) []),.c (.d (.sl (x.aN.map cO.enc))),.c (.d (.i .i64 x.aN.length)),.c (.d (.i .i64 0))] ?_ ?_ ?_
   ·rfl
   ·first|(refine W1 ?_;done)|(refine W1 ?_;simp[*])
   ·exact tail.out hh
 refine⟨fun hh=> ?_⟩
 have bad:∀i,∀hi:i<x.aN.length,mI x.aN[i]=false->V.c (.d (.b false))=V.c (.d (.b (eX x))):=fun i hi h=>by
  have:x.aN.all mI=false:=Bool.eq_false_iff.2 fun hx=>by
   rw[List.all_eq_true.1 hx _ (List.getElem_mem hi)] at h;cases h
  unfold eX
  rw[this];simp
 refine aZ (ι:=Nat×List (List UInt8)) zmx rfl [3,91,92,93] (fun y=>[.c (.bI (0,1) (y.2.map encS)),.c (.d (.sl (x.aN.map cO.enc))),.c (.d (.i .i64 x.aN.length)),.c (.d (.i .i64 y.1))]) (fun y=>[.box (x.enc.map .d),.tok 1 (y.2.map encS)]::S)
  (fun y=>y.1<=x.aN.length/\y.2=(l9 x).take y.1/\∀j,∀hj:j<x.aN.length,j<y.1->mI x.aN[j]=true) (fun y=>x.aN.length-y.1) (0,[]) rfl ?_ ⟨Nat.zero_le _,rfl,fun j _ h=>by simp only at h;omega⟩ ?_
 ·exact Z1
 rintro⟨i,names⟩ ⟨p1,p2,p3⟩;simp only at p1 p2 p3
 have pl:names.length<=x.aN.length:=by rw[p2];simp[l9];omega
 refine W1 ?_;refine S0 (fun hb h=>?_) fun hb h=>?_
 ·have hi:i<x.aN.length:=by omega
  have hm:=hM _ (List.getElem_mem hi);have hms:=cO.sum x.aN[i]
  have hmv:∀s∈x.aN[i].aH,s.length<=4194304:=fun s h=>by have:=sP h;omega
  refine W3 ?_;refine S0 (fun hb h=>?_) fun hb h=>?_
  ·exact bad i hi (by unfold mI;rw[aR (by omega)];rfl)
  refine W3 ?_;refine S0 (fun hb h=>?_) fun hb h=>?_
  ·exact bad i hi (by unfold mI;rw[aR (show ¬x.aN[i].aH.length<=5 by omega)];simp)
  refine W3 ?_;refine C2 (KC x.aN[i].aH x.aN[i].fBody (by omega) hmv (by omega)) ?_;refine S0 (fun hb h=>?_) fun hb h=>?_
  ·exact bad i hi (by unfold mI;rw[h];simp)
  have k2:=h
  have k3:mI x.aN[i]=true:=by unfold mI;rw[k2,bM (by omega),bM (by omega)];rfl
  refine W3 ?_;rw[show List.map encS names++[[D.s x.aN[i].fName]]=List.map encS (names++[x.aN[i].fName]) by simp[encS]]
  exact bT 2 (by decide) (i+1,names++[x.aN[i].fName]) (by simp only;omega) rfl rfl rfl rfl ⟨by simp only;omega,by simp only;rw[p2,iQ (by simpa [l9] using hi)];simp[l9],fun j hj hji=>by
   simp only at hji;by_cases e:j=i
   ·subst e;exact k3
   ·exact p3 j hj (by omega)⟩
 have hi:i=x.aN.length:=by omega
 have hn:names=l9 x:=by rw[p2,List.take_of_length_le (by simp[l9];omega)]
 have hall:x.aN.all mI=true:=List.all_eq_true.2 fun c hc=>by
  obtain⟨j,hj,e⟩:=List.getElem_of_mem hc;rw[<-e];exact p3 j hj (by omega)
 have hnl:∀s∈names,s.length<=4194304:=fun s hm=>by
  rw[hn] at hm;obtain⟨g,hg,e⟩:=List.mem_map.1 hm;have:=hM g hg;have:=cO.sum g;rw[<-e];omega
 refine C2 (oQ names (by omega) hnl) ?_;exact aI (by unfold eX;rw[hh,hall,hn];rfl)
theorem oI(x:aS)(hsz:x.sz<=4194304):aF prog 159 [x.v] (.c (.d (.b (eX x)))):=fun S=>by
 have hs:=aS.sum x
 have hV:∀s∈x.aH,s.length<=4194304:=fun s h=>by have:=sP h;omega
 have hW:∀b∈x.dI,b.sz<=4194304:=fun b h=>by have:=qg h;omega
 have hM:∀m∈x.aN,m.sz<=4194304:=fun m h=>by have:=Bb h;omega
 have bad:x.aN.all mI=false->V.c (.d (.b false))=V.c (.d (.b (eX x))):=fun h=>aI (by unfold eX;rw[h];simp);have no:vQ x=false->V.c (.d (.b false))=V.c (.d (.b (eX x))):=fun h=>aI (by unfold eX;rw[h];rfl)
 have hk:gU x.aH x.bY=true->r9 x.bY=false->(x.bY.aM=1\/x.bY.aM=2\/x.bY.aM=4):=fun h1 h2=>by
  unfold gU at h1;rw[Bool.and_eq_true] at h1;have:=acF h1.1;have:=afx h2;omega
 refine zcx [.tmp 2] func159 ntmps159 ?_;refine W1 ?_
 repeat' (first
  |refine S0 (fun hb h=>?_) fun hb h=>?_
  |((with_reducible show fB _ _ 62 _ _ _ _);refine bD (iA x.bO (by omega)) ?_;refine W1 ?_)
  |((with_reducible show fB _ _ 63 _ _ _ _);refine bD (mG x.aH 3 (by omega) hV) ?_;refine W1 ?_)
  |((with_reducible show fB _ _ 222 _ _ _ _);refine bD (vo x.bY x.aH (by omega) (by omega)) ?_;refine W1 ?_)
  |((with_reducible show fB _ _ 223 _ _ _ _);refine bD (GQ x.bY (by omega)) ?_;refine W1 ?_)
  |((with_reducible show fB _ _ 224 _ _ _ _);refine bD (MP x.dI x.aH (by omega) hW (by omega)) ?_;refine W1 ?_)
  |(refine no ?_;unfold vQ;grind [gJ,jo,bM,aR]))
 all_goals
  have h1:validName x.bO=true:=by assumption
  have h2:(dec ((x.aH.length:Int)<=3)&&iI x.aH)=true:=by assumption
  have h3:gU x.aH x.bY=true:=by assumption
  have h4:r9 x.bY=false:=by assumption
  have h5:¬x.bY.aM=4:=by assumption
  have h6:qz x.aH x.dI=true:=by assumption
 have h7:=hk h3 h4;clear hk;rw[Bool.and_eq_true] at h2;have h8:=gJ h2.1
 have pre:vQ x=(among x.aH (jE [] x.bY)&&((if x.fJ=true then gU x.aH x.bR else dec (yG x.bR))&&dec (x.aN.length<=6))):=by
  unfold vQ;rw[h1,h2.2,h3,h4,h6,bM (show x.aH.length<=3 by omega),bM (show x.bY.aM=2\/x.bY.aM=1 by omega)]
  simp
 clear h1 h2 h3 h4 h5 h6 h7 h8
 refine aZ (ι:=Nat) zmx rfl [1,3] (fun i=>[.c (.ptr (0,0) 0),.c (.d (.i .i64 i))]) (fun _=>[.box (x.enc.map .d)]::S)
  (fun i=>i<=x.aH.length/\among (x.aH.drop i) (jE [] x.bY)=among x.aH (jE [] x.bY)) (fun i=>x.aH.length-i) 0 rfl ?_ ⟨Nat.zero_le _,rfl⟩ ?_
 ·exact Z1
 rintro i ⟨p1,p2⟩;simp -implicitDefEqProofs (disch:=omega) only[go_sem,encS]
 with_reducible refine dS (fun hb=> ?_) (fun hb=> ?_)<;>have h:=hb<;>(try simp only[wf_preprocess] at h)<;>simp -implicitDefEqProofs (disch:=omega) only[go_sem,hb,encS]<;>refine W3 ?_
 ·have hi:i<x.aH.length:=by omega
  rw[List.drop_eq_getElem_cons hi] at p2;have p3:among x.aH (jE [] x.bY)=(dec (x.aH[i]∈jE [] x.bY)&&among (x.aH.drop (i+1)) (jE [] x.bY)):=p2.symm;refine W3 ?_;refine C2 (Uo x.aH[i] x.bY (by omega)) ?_;rw[acE];refine S0 (fun hb h=>?_) fun hb h=>?_
  ·exact no (by rw[pre,p3,aR h];rfl)
  ·exact dB (i+1) (by omega) rfl rfl ⟨by omega,by rw[p3,bM h];rfl⟩
 rw[List.drop_of_length_le (by omega)] at p2;have p3:among x.aH (jE [] x.bY)=true:=p2.symm;rw[p3,Bool.true_and] at pre;refine(show Hold ((if x.fJ=true then gU x.aH x.bR else dec (yG x.bR))=true-> ?T)->_ from fun tail=> ?main) ?tp
 case' main=>
  repeat' (first
   |refine S0 (fun hb h=>?_) fun hb h=>?_
   |((with_reducible show fB _ _ 222 _ _ _ _);refine bD (vo x.bR x.aH (by omega) (by omega)) ?_;refine W1 ?_)
   |((with_reducible show fB _ _ 199 _ _ _ _);refine bD (PX x.bR) ?_;refine W1 ?_)
   |(refine no ?_;rw[pre];grind [gJ,jo,bM,aR]))
  all_goals
   have hh:(if x.fJ=true then gU x.aH x.bR else dec (yG x.bR))=true:=by grind [gJ,jo,bM,aR]
   refine W3 ?_;refine qG 4 1 [] rfl (by simp) ?_;refine qx (st':=[.box (x.enc.map .d),.tok 1 []]::S) [1,4,5] [.c (.ptr (0,0) 0),.c (.bI (0,1) []),.c (.d (.i .i64 0))] ?_ ?_ ?_
   ·rfl
   ·first|(refine W1 ?_;done)|(refine W1 ?_;simp[*])
   ·exact tail.out hh
 refine⟨fun hh=> ?_⟩;rw[hh,Bool.true_and] at pre;clear p2 p3 p1 hh no
 have ai1:∀i,∀hi:i<x.aN.length,mI x.aN[i]=false->V.c (.d (.b false))=V.c (.d (.b (eX x))):=fun i hi h=>bad (Bool.eq_false_iff.2 fun hx=>by
  rw[List.all_eq_true.1 hx _ (List.getElem_mem hi)] at h;cases h)
 refine aZ (ι:=Nat×List (List UInt8)) zmx rfl [1,4,5] (fun y=>[.c (.ptr (0,0) 0),.c (.bI (0,1) (y.2.map encS)),.c (.d (.i .i64 y.1))]) (fun y=>[.box (x.enc.map .d),.tok 1 (y.2.map encS)]::S)
  (fun y=>y.1<=x.aN.length/\y.2=(l9 x).take y.1/\∀j,∀hj:j<x.aN.length,j<y.1->mI x.aN[j]=true) (fun y=>x.aN.length-y.1) (0,[]) rfl ?_ ⟨Nat.zero_le _,rfl,fun j _ h=>by simp only at h;omega⟩ ?_
 ·exact Z1
 rintro⟨i,names⟩ ⟨p1,p2,p3⟩;simp only at p1 p2 p3
 have pl:names.length<=x.aN.length:=by rw[p2];simp[l9];omega
 refine W1 ?_;refine S0 (fun hb h=>?_) fun hb h=>?_
 ·have hi:i<x.aN.length:=by omega
  have hm:=hM _ (List.getElem_mem hi);have hms:=cO.sum x.aN[i]
  have hmv:∀s∈x.aN[i].aH,s.length<=4194304:=fun s h=>by have:=sP h;omega
  refine W3 ?_;refine S0 (fun hb h=>?_) fun hb h=>?_
  ·exact ai1 i hi (by unfold mI;rw[aR (by omega)];rfl)
  refine W3 ?_;refine C2 (mG x.aN[i].aH 5 (by omega) hmv) ?_;refine S0 (fun hb h=>?_) fun hb h=>?_
  ·refine ai1 i hi ?_;unfold mI nu
   have:(dec (x.aN[i].aH.length<=5)&&iI x.aN[i].aH)=false:=by
    rw[<-h];congr 1;exact iO ⟨fun h=>by omega,fun h=>by omega⟩
   rw[<-Bool.and_assoc (dec (x.aN[i].aH.length<=5)),this];simp
  have k1:=h;rw[Bool.and_eq_true] at k1;have k4:=gJ k1.1;refine W3 ?_;refine C2 (IX x.aN[i].aH x.aN[i].fBody (by omega) (by omega)) ?_;refine S0 (fun hb h=>?_) fun hb h=>?_
  ·exact ai1 i hi (by unfold mI nu;rw[h];simp)
  have k2:=h
  have k3:mI x.aN[i]=true:=by unfold mI nu;rw[k2,k1.2,bM (by omega),bM (by omega)];rfl
  refine W3 ?_;rw[show List.map encS names++[[D.s x.aN[i].fName]]=List.map encS (names++[x.aN[i].fName]) by simp[encS]]
  exact bT 2 (by decide) (i+1,names++[x.aN[i].fName]) (by simp only;omega) rfl rfl rfl rfl ⟨by simp only;omega,by simp only;rw[p2,iQ (by simpa [l9] using hi)];simp[l9],fun j hj hji=>by
   simp only at hji;by_cases e:j=i
   ·subst e;exact k3
   ·exact p3 j hj (by omega)⟩
 have hi:i=x.aN.length:=by omega
 have hn:names=l9 x:=by rw[p2,List.take_of_length_le (by simp[l9];omega)]
 have hall:x.aN.all mI=true:=List.all_eq_true.2 fun c hc=>by
  obtain⟨j,hj,e⟩:=List.getElem_of_mem hc;rw[<-e];exact p3 j hj (by omega)
 have hnl:∀s∈names,s.length<=4194304:=fun s hm=>by
  rw[hn] at hm;obtain⟨g,hg,e⟩:=List.mem_map.1 hm;have:=hM g hg;have:=cO.sum g;rw[<-e];omega
 have hlen:names.length=x.aN.length:=by rw[hn];simp[l9]
 refine C2 (mG names 6 (by omega) hnl) ?_;refine aI ?_;unfold eX;rw[pre,hall,hn,Bool.true_and];congr 1;rw[<-hn,hlen];exact iO ⟨fun h=>by omega,fun h=>by omega⟩
def Av(P:Program)(N:Nat)(g:St->St):Nat->Code->(Exit->St->Prop)->St->Prop
 |0,c,Q,s=>CW P N c Q (g s)
 |k+1,.seq x y,Q,s=>CW P N x (lY (Av P N g k y Q) Q) s
 |_,_,_,_=>False
theorem Xh{P:Program}{N:Nat}{g:St->St}{c:Code}{Q:Exit->St->Prop}{s:St}:Av P N g 0 c Q s=CW P N c Q (g s):=by rw[Av]
theorem Bc{P:Program}{N k:Nat}{g:St->St}{x y:Code}{Q:Exit->St->Prop}{s:St}:Av P N g (k+1) (.seq x y) Q s=CW P N x (lY (Av P N g k y Q) Q) s:=by rw[Av]
theorem ai2{P:Program}{N:Nat}{g:St->St}{x y:Code}{Q:Exit->St->Prop}{s:St}:Av P N g 5 (.seq x y) Q s=CW P N x (lY (Av P N g 4 y Q) Q) s:=Bc
theorem ai3{P:Program}{N:Nat}{g:St->St}{x y:Code}{Q:Exit->St->Prop}{s:St}:Av P N g 4 (.seq x y) Q s=CW P N x (lY (Av P N g 3 y Q) Q) s:=Bc
theorem afy{P:Program}{N:Nat}{g:St->St}{x y:Code}{Q:Exit->St->Prop}{s:St}:Av P N g 3 (.seq x y) Q s=CW P N x (lY (Av P N g 2 y Q) Q) s:=Bc
theorem alV{P:Program}{N:Nat}{g:St->St}{x y:Code}{Q:Exit->St->Prop}{s:St}:Av P N g 2 (.seq x y) Q s=CW P N x (lY (Av P N g 1 y Q) Q) s:=Bc
theorem alW{P:Program}{N:Nat}{g:St->St}{x y:Code}{Q:Exit->St->Prop}{s:St}:Av P N g 1 (.seq x y) Q s=CW P N x (lY (Av P N g 0 y Q) Q) s:=Bc
attribute [go_sem] Xh ai2 ai3 afy alV alW
theorem Tw{P:Program}{N:Nat}{g:St->St}(hg:∀s,ig N s (g s))(gI:P.follows .mixedOrders=true):∀(k:Nat)(c:Code)(Q:Exit->St->Prop)(s:St),codeOk N c=true->Av P N g k c Q s->AW P N c Q s
 |0,c,Q,s,ok,h=>by
  rw[Xh] at h;exact lU (kE gI c Q _ ok h) (hg s)
 |k+1,.seq x y,Q,s,ok,h=>by
  rw[Bc] at h;simp only[codeOk,Bool.and_eq_true] at ok;refine Vs (AW.mono (kE gI x _ s ok.1 h) fun e s' h'=> ?_)
  cases e with
  |normal=>exact Tw hg gI k y Q s' ok.2 h'
  |_=>exact h'
 |k+1,.region ..,_,_,_,h=>h.elim
 |k+1,.cond ..,_,_,_,h=>h.elim
 |k+1,.block ..,_,_,_,h=>h.elim
 |k+1,.exit ..,_,_,_,h=>h.elim
 |k+1,.ret,_,_,_,h=>h.elim
 |k+1,.skip,_,_,_,h=>h.elim
 |k+1,.loop ..,_,_,_,h=>h.elim
theorem BA{P:Program}{S:Store}{N:Nat}(n k n' pos:Nat){f:FuncId}{fn:Func}{c:Code}{args:List V}{post:V->Store->Prop}{rs:List ResultVar}(gI:P.follows .mixedOrders=true)(hf:P.funcs[f]? =some fn)(hN:fn.ntmps=N)
 (hb:fn.body=some c) (hn:(fn.name== "runtime.NumGoroutine")=false) (hr:fn.results.toList=rs) (hl:Nat.ble args.length N=true) (hok:codeOk N c=true)
 (h:Av P N (EL n') pos c (WM P n rs post) ⟨mO (args.map (V.up 1)) 0,[.seed n,.seed k]::S⟩):bX P f args S post:=by
 subst hN;subst hr;exact tK hf hb hn (Nat.le_of_ble_eq_true hl) (WQ n k (yA (EF n) (Tw (G7 n') gI pos c _ _ hok h)))
def mh:List UInt8:=[105,110,115,116]
def nP:List UInt8:=[100,101,102,97,117,108,116]
def j4(x:aS):List (List UInt8):=if x.iK=true then [nP] else []
def j5(x:aS):List ah:=if x.fJ=true then [dn x.bR] else []
def om(m:cO):ah:=bH [bN m.fName,bH (aO m.aH),fu m.fBody]
def mR(x:aS):List ah:=[bN mh,bN x.bO,bH (aO x.aH),dn x.bY,bH (x.dI.map qh),bH (aO (j4 x)),bH (j5 x)]
def pR(x:aS):ah:=bH (mR x++x.aN.map om)
noncomputable def Gf(x:aS):ah:=vv (eX x) (pR x)
theorem alX(m:cO)(hok:iR m.fBody=true):(om m).sz<=27+32*m.sz:=by
 have h1:=Kv m.fBody hok;have h3:=cO.sum m;rw[dH] at h3;rw[om,jl];simp[dA,jM,jl,jr,rC];omega
theorem Xi:∀l:List cO,(∀g∈l,iR g.fBody=true)->dA (l.map om)<=27*l.length+32*aP (l.map cO.enc)
 |[],_=>by simp[dA]
 |c::l,h=>by
  have h1:=alX c (h c (List.mem_cons_self ..));have h2:=Xi l fun g hg=>h g (List.mem_cons_of_mem _ hg);rw[List.map_cons,dA,List.map_cons,aP,List.length_cons];simp only[cO.sz] at h1;omega
theorem nQ{x:aS}(h:eX x=true):formed x.bY=true/\(∀b∈x.dI,formed b.fType=true)/\(x.fJ=true->formed x.bR=true)/\(∀m∈x.aN,iR m.fBody=true):=by
 unfold eX vQ at h;simp only[Bool.and_eq_true] at h;obtain⟨⟨_,_,_,h1,_,_,_,h2,h3,_⟩,h4,_⟩:=h;refine⟨wF h1,Df h2,fun ha=> ?_,fun m hm=> ?_⟩
 ·rw[if_pos ha] at h3;exact wF h3
 ·have h5:=List.all_eq_true.1 h4 m hm;unfold mI at h5;simp only[Bool.and_eq_true] at h5;exact FE h5.2.2
theorem Hf{x:aS}(hok:eX x=true):(pR x).sz<=96+40*x.sz:=by
 obtain⟨_,_,_,hm⟩:=nQ hok;have h1:=Xi x.aN hm;have h2:=Rx x.dI;have h3:=aS.sum x;have h4:=Cb x.bY;have h5:=Cb x.bR
 have h6:(j4 x).length<=1/\((j4 x).map List.length).sum<=7:=by unfold j4;split<;>simp[nP]
 have h7:(j5 x).length<=1/\dA (j5 x)<=(dn x.bR).sz:=by unfold j5;split<;>simp[dA]
 rw[dH] at h3;rw[pR,jl,gL,List.length_append,List.length_map];simp[mR,dA,jM,jl,jr,rC,mh];omega
theorem acG(n:Nat)(a b:List UInt8)(w v:List (List UInt8))(h:ah)(bs zs:List ah):lx [bN a,bN b,bH (aO w),h,bH bs,bH (aO v),bH zs] (n+1)=[[.s a,.ol (n+1) []],[.s b,.ol (n+1+1) []],[.s [],.ol (n+1+1+1) (lx (aO w) (n+1+1+1+1))],[.s h.aQ,.ol (n+1+1+1+dU (bH (aO w))) (lx h.aj (n+1+1+1+dU (bH (aO w))+1))],[.s [],.ol (n+1+1+1+dU (bH (aO w))+dU h) (lx bs (n+1+1+1+dU (bH (aO w))+dU h+1))],
 [.s [],.ol (n+1+1+1+dU (bH (aO w))+dU h+dU (bH bs)) (lx (aO v) (n+1+1+1+dU (bH (aO w))+dU h+dU (bH bs)+1))],[.s [],.ol (n+1+1+1+dU (bH (aO w))+dU h+dU (bH bs)+dU (bH (aO v))) (lx zs (n+1+1+1+dU (bH (aO w))+dU h+dU (bH bs)+dU (bH (aO v))+1))]]:=by
 simp only[jG,nk,jF,kM,kN,dZ,dw,jT]
theorem Xj(n:Nat)(es:List (List D)):Less (.c (.d (.ol n es))) (.c (.d (.sl es))):=fun w σ S β v h=>⟨um h.1,h.2⟩
theorem EO(x:aS)(n:Nat)(hv:eX x=true)(hsz:x.sz<=1048576):aF prog 127 [x.v] (.agg [.d (.s []),.d (.ol n (lx (pR x).aj (n+1)))]):=fun S=>by
 have hdz:=aS.sum x;rw[dH] at hdz;obtain⟨hf1,hf2,hf3,FH⟩:=nQ hv;obtain⟨p,hp⟩:∃p:Nat,p=n+1+1+1+dU (bH (aO x.aH))+dU (dn x.bY)+dU (bH (x.dI.map qh))+dU (bH (aO (j4 x))):=⟨_,rfl⟩;obtain⟨L,hL⟩:∃L:Nat->Nat,L=fun i=>n+1+iL (mR x++(x.aN.map om).take i):=⟨_,rfl⟩;obtain⟨T,hT⟩:∃T:Nat->List (List D),T=fun i=>lx (mR x++(x.aN.map om).take i) (n+1):=⟨_,rfl⟩
 have hT0:T 0=[[.s mh,.ol (n+1) []],[.s x.bO,.ol (n+1+1) []],[.s [],.ol (n+1+1+1) (lx (aO x.aH) (n+1+1+1+1))],[.s (dn x.bY).aQ,.ol (n+1+1+1+dU (bH (aO x.aH))) (lx (dn x.bY).aj (n+1+1+1+dU (bH (aO x.aH))+1))],[.s [],.ol (n+1+1+1+dU (bH (aO x.aH))+dU (dn x.bY)) (lx (x.dI.map qh) (n+1+1+1+dU (bH (aO x.aH))+dU (dn x.bY)+1))],[.s [],.ol (n+1+1+1+dU (bH (aO x.aH))+dU (dn x.bY)+dU (bH (x.dI.map qh))) (lx (aO (j4 x)) (n+1+1+1+dU (bH (aO x.aH))+dU (dn x.bY)+dU (bH (x.dI.map qh))+1))],[.s [],.ol p (lx (j5 x) (p+1))]]:=by
  rw[hT,hp];simp only[List.take_zero,List.append_nil,mR,acG]
 have gM:∀i,(T i).length<=i+7:=fun i=>by
  rw[hT];simp only[gG,List.length_append];have:=List.length_take_le i (x.aN.map om);simp[mR];omega
 have hTs:∀i (hi:i<x.aN.length),T i++[[.s [],.ol (L i) [[.s x.aN[i].fName,.ol (L i+1) []],[.s [],.ol (L i+1+1) (lx (aO x.aN[i].aH) (L i+1+1+1))],[.s (fu x.aN[i].fBody).aQ,.ol (L i+1+1+dU (bH (aO x.aN[i].aH))) (lx (fu x.aN[i].fBody).aj (L i+1+1+dU (bH (aO x.aN[i].aH))+1))]]]]=T (i+1):=fun i hi=>by
  have:=AU (base:=mR x) (l:=x.aN.map om) (i:=i) (by rw[List.length_map];exact hi) (n+1);rw[List.getElem_map,om,dZ,dw] at this;simp only[jG,nk,jF,kM,kN,dZ,dw,jT] at this;rw[hT,hL];exact this
 have hTr:∀i,∀r∈T i,r.length=2:=fun i=>by rw[hT];exact ku
 have hTe:T x.aN.length=lx (pR x).aj (n+1):=by
  rw[hT];simp only
  rw[List.take_of_length_le (by simp)];rfl
 clear hT hL;refine(show Hold ?T->_ from fun tail=> ?main) ?tp
 case' main=>
  cases ha:x.iK<;>cases hs:x.fJ
  ·have hfl:j4 x=[]:=by unfold j4;rw[ha];rfl
   have has:j5 x=[]:=by unfold j5;rw[hs];rfl
   refine BA (p) 1 (n) 5 (rs:=[.cell 2 37]) zmx func127 ntmps127 rfl rfl rfl rfl rfl ?_;simp -implicitDefEqProofs (disch:=omega) only[go_sem,ha,hs];refine W3 ?_;refine C1 (dx _ (n+1)) ?_;refine C1 (dx _ (n+1+1)) ?_;refine C1 (eD x.aH (by omega) (n+1+1+1)) ?_;refine C1 (lJ x.bY (n+1+1+1+dU (bH (aO x.aH))) hf1 (by omega)) ?_;refine C1 (vP x.dI (n+1+1+1+dU (bH (aO x.aH))+dU (dn x.bY)) hf2 (by omega) (fun b hb=>by have:=qg hb;omega)) ?_;refine jS (eD [] (by simp) (n+1+1+1+dU (bH (aO x.aH))+dU (dn x.bY)+dU (bH (x.dI.map qh)))) (.cons (og p _) .nil) ?_;refine W1 ?_;refine C1 (nM _ _) ?_;refine W3 ?_;refine kR n 5 2 (T 0) (.inl ?_) (hTr 0) ?_
   ·rw[hT0,hfl,has];rfl
   refine nY (L 0) ?_;refine qx (st':=[.seed (L 0),.seed 1,.box [.d (.s x.bO),.d (.sl (x.aH.map encS)),.d (.i .i64 x.bY.aM),.d (.s x.bY.fName),.d (.sl (x.bY.fArgs.map ak.enc)),.d (.sl (x.dI.map bW.enc)),.d (.b x.iK),.d (.b x.fJ),.d (.i .i64 x.bR.aM),.d (.s x.bR.fName),.d (.sl (x.bR.fArgs.map ak.enc)),.d (.sl (x.aN.map cO.enc))],.box [.d (.s []),.bF []],.eG n 2 (T 0)]::S) [2,5,42,43,44] [.c (.ptr (0,3) 0),.c (.bI (0,4) (T 0)),.c (.d (.sl (x.aN.map cO.enc))),.c (.d (.i .i64 x.aN.length)),.c (.d (.i .i64 0))] ?_ ?_ ?_
   ·rfl
   ·rw[ha,hs];rfl
   ·exact tail.out
  ·have hfl:j4 x=[]:=by unfold j4;rw[ha];rfl
   have has:j5 x=[dn x.bR]:=by unfold j5;rw[hs];rfl
   refine BA (p) 1 (n) 5 (rs:=[.cell 2 37]) zmx func127 ntmps127 rfl rfl rfl rfl rfl ?_;simp -implicitDefEqProofs (disch:=omega) only[go_sem,ha,hs];refine W3 ?_;refine C1 (lJ x.bR (p+1) (hf3 hs) (by omega)) ?_;refine W3 ?_;refine C1 (dx _ (n+1)) ?_;refine C1 (dx _ (n+1+1)) ?_;refine C1 (eD x.aH (by omega) (n+1+1+1)) ?_;refine C1 (lJ x.bY (n+1+1+1+dU (bH (aO x.aH))) hf1 (by omega)) ?_;refine C1 (vP x.dI (n+1+1+1+dU (bH (aO x.aH))+dU (dn x.bY)) hf2 (by omega) (fun b hb=>by have:=qg hb;omega)) ?_;refine jS (eD [] (by simp) (n+1+1+1+dU (bH (aO x.aH))+dU (dn x.bY)+dU (bH (x.dI.map qh)))) (.cons (og p _) .nil) ?_;refine W1 ?_;refine C1 (kP _) ?_;refine W3 ?_;refine kR n 5 2 (T 0) (.inl ?_) (hTr 0) ?_
   ·rw[hT0,hfl,has,jG,nk,jF];rfl
   refine nY (L 0) ?_;refine qx (st':=[.seed (L 0),.seed 1,.box [.d (.s x.bO),.d (.sl (x.aH.map encS)),.d (.i .i64 x.bY.aM),.d (.s x.bY.fName),.d (.sl (x.bY.fArgs.map ak.enc)),.d (.sl (x.dI.map bW.enc)),.d (.b x.iK),.d (.b x.fJ),.d (.i .i64 x.bR.aM),.d (.s x.bR.fName),.d (.sl (x.bR.fArgs.map ak.enc)),.d (.sl (x.aN.map cO.enc))],.box [.d (.s []),.bF []],.eG n 2 (T 0)]::S) [2,5,42,43,44] [.c (.ptr (0,3) 0),.c (.bI (0,4) (T 0)),.c (.d (.sl (x.aN.map cO.enc))),.c (.d (.i .i64 x.aN.length)),.c (.d (.i .i64 0))] ?_ ?_ ?_
   ·rfl
   ·rw[ha,hs];rfl
   ·exact tail.out
  ·have hfl:j4 x=[nP]:=by unfold j4;rw[ha];rfl
   have has:j5 x=[]:=by unfold j5;rw[hs];rfl
   refine BA (p) 1 (n) 5 (rs:=[.cell 2 37]) zmx func127 ntmps127 rfl rfl rfl rfl rfl ?_;simp -implicitDefEqProofs (disch:=omega) only[go_sem,ha,hs];refine W3 ?_;refine C1 (dx _ (n+1)) ?_;refine C1 (dx _ (n+1+1)) ?_;refine C1 (eD x.aH (by omega) (n+1+1+1)) ?_;refine C1 (lJ x.bY (n+1+1+1+dU (bH (aO x.aH))) hf1 (by omega)) ?_;refine C1 (vP x.dI (n+1+1+1+dU (bH (aO x.aH))+dU (dn x.bY)) hf2 (by omega) (fun b hb=>by have:=qg hb;omega)) ?_;refine jS (eD [nP] (by simp) (n+1+1+1+dU (bH (aO x.aH))+dU (dn x.bY)+dU (bH (x.dI.map qh)))) (.cons (Xj p _) .nil) ?_;refine W1 ?_;refine C1 (nM _ _) ?_;refine W3 ?_;refine kR n 5 2 (T 0) (.inl ?_) (hTr 0) ?_
   ·rw[hT0,hfl,has];rfl
   refine nY (L 0) ?_;refine qx (st':=[.seed (L 0),.seed 1,.box [.d (.s x.bO),.d (.sl (x.aH.map encS)),.d (.i .i64 x.bY.aM),.d (.s x.bY.fName),.d (.sl (x.bY.fArgs.map ak.enc)),.d (.sl (x.dI.map bW.enc)),.d (.b x.iK),.d (.b x.fJ),.d (.i .i64 x.bR.aM),.d (.s x.bR.fName),.d (.sl (x.bR.fArgs.map ak.enc)),.d (.sl (x.aN.map cO.enc))],.box [.d (.s []),.bF []],.eG n 2 (T 0)]::S) [2,5,42,43,44] [.c (.ptr (0,3) 0),.c (.bI (0,4) (T 0)),.c (.d (.sl (x.aN.map cO.enc))),.c (.d (.i .i64 x.aN.length)),.c (.d (.i .i64 0))] ?_ ?_ ?_
   ·rfl
   ·rw[ha,hs];rfl
   ·exact tail.out
  ·have hfl:j4 x=[nP]:=by unfold j4;rw[ha];rfl
   have has:j5 x=[dn x.bR]:=by unfold j5;rw[hs];rfl
   refine BA (p) 1 (n) 5 (rs:=[.cell 2 37]) zmx func127 ntmps127 rfl rfl rfl rfl rfl ?_;simp -implicitDefEqProofs (disch:=omega) only[go_sem,ha,hs];refine W3 ?_;refine C1 (lJ x.bR (p+1) (hf3 hs) (by omega)) ?_;refine W3 ?_;refine C1 (dx _ (n+1)) ?_;refine C1 (dx _ (n+1+1)) ?_;refine C1 (eD x.aH (by omega) (n+1+1+1)) ?_;refine C1 (lJ x.bY (n+1+1+1+dU (bH (aO x.aH))) hf1 (by omega)) ?_;refine C1 (vP x.dI (n+1+1+1+dU (bH (aO x.aH))+dU (dn x.bY)) hf2 (by omega) (fun b hb=>by have:=qg hb;omega)) ?_;refine jS (eD [nP] (by simp) (n+1+1+1+dU (bH (aO x.aH))+dU (dn x.bY)+dU (bH (x.dI.map qh)))) (.cons (Xj p _) .nil) ?_;refine W1 ?_;refine C1 (kP _) ?_;refine W3 ?_;refine kR n 5 2 (T 0) (.inl ?_) (hTr 0) ?_
   ·rw[hT0,hfl,has,jG,nk,jF];rfl
   refine nY (L 0) ?_;refine qx (st':=[.seed (L 0),.seed 1,.box [.d (.s x.bO),.d (.sl (x.aH.map encS)),.d (.i .i64 x.bY.aM),.d (.s x.bY.fName),.d (.sl (x.bY.fArgs.map ak.enc)),.d (.sl (x.dI.map bW.enc)),.d (.b x.iK),.d (.b x.fJ),.d (.i .i64 x.bR.aM),.d (.s x.bR.fName),.d (.sl (x.bR.fArgs.map ak.enc)),.d (.sl (x.aN.map cO.enc))],.box [.d (.s []),.bF []],.eG n 2 (T 0)]::S) [2,5,42,43,44] [.c (.ptr (0,3) 0),.c (.bI (0,4) (T 0)),.c (.d (.sl (x.aN.map cO.enc))),.c (.d (.i .i64 x.aN.length)),.c (.d (.i .i64 0))] ?_ ?_ ?_
   ·rfl
   ·rw[ha,hs];rfl
   ·exact tail.out
 refine⟨?_⟩
 refine aZ (ι:=Nat) zmx rfl [2,5,42,43,44] (fun i=>[.c (.ptr (0,3) 0),.c (.bI (0,4) (T i)),.c (.d (.sl (x.aN.map cO.enc))),.c (.d (.i .i64 x.aN.length)),.c (.d (.i .i64 i))])
  (fun i=>[.seed (L i),.seed 1,.box [.d (.s x.bO),.d (.sl (x.aH.map encS)),.d (.i .i64 x.bY.aM),.d (.s x.bY.fName),.d (.sl (x.bY.fArgs.map ak.enc)),.d (.sl (x.dI.map bW.enc)),.d (.b x.iK),.d (.b x.fJ),.d (.i .i64 x.bR.aM),.d (.s x.bR.fName),.d (.sl (x.bR.fArgs.map ak.enc)),.d (.sl (x.aN.map cO.enc))],.box [.d (.s []),.bF []],.eG n 2 (T i)]::S)
  (fun i=>i<=x.aN.length) (fun i=>x.aN.length-i) 0 rfl rfl (Nat.zero_le _) ?_
 intro i hi;have hl:=gM i;refine W1 ?_;refine S0 (fun hb h=>?_) fun hb h=>?_
 ·have hi':i<x.aN.length:=by omega
  have hm:=List.getElem_mem hi';have hcz:=Bb hm;have hce:=cO.sum x.aN[i];rw[dH] at hce;have hst:=hTs i hi';refine W3 ?_;refine C1 (dx _ (L i+1)) ?_;refine C1 (eD x.aN[i].aH (by omega) (L i+1+1)) ?_;refine C1 (Ae x.aN[i].fBody (L i+1+1+dU (bH (aO x.aN[i].aH))) (FH _ hm) (by omega)) ?_;refine W3 ?_;refine C1 (nM _ _) ?_;refine W3 ?_;rw[hst];refine kH (L (i+1)) 4 (by decide) (i+1) (by omega) rfl rfl ?_ rfl (by omega);simp[iN,gT,V.refs,C.refs,jY]
 ·have hi':i=x.aN.length:=by omega
  refine aW rfl (jV 0 4 _ _) ?_;refine W1 ?_;rw[hi',hTe]
theorem ai4(x:aS)(hv:eX x=true)(hsz:x.sz<=1048576)(ha:x.iK=true)(hs:x.fJ=true):aF prog 132 [x.v] (uO (pR x)).v:=fun S=>by
 have hdz:=aS.sum x;rw[dH] at hdz;obtain⟨hf1,hf2,hf3,FH⟩:=nQ hv;have hz:=Hf hv
 have hfl:j4 x=[nP]:=by unfold j4;rw[ha];rfl
 have has:j5 x=[dn x.bR]:=by unfold j5;rw[hs];rfl
 obtain⟨T,hT⟩:∃T:Nat->List (List D),T=fun i=>(mR x++(x.aN.map om).take i).map ah.enc:=⟨_,rfl⟩
 have hT0:T 0=[[.s mh,.sl []],[.s x.bO,.sl []],[.s [],.sl ((aO x.aH).map ah.enc)],[.s (dn x.bY).aQ,.sl ((dn x.bY).aj.map ah.enc)],[.s [],.sl ((x.dI.map qh).map ah.enc)],[.s [],.sl ((aO [nP]).map ah.enc)],[.s [],.sl [[.s (dn x.bR).aQ,.sl ((dn x.bR).aj.map ah.enc)]]]]:=by
  rw[hT];simp only[List.take_zero,List.append_nil,mR,hfl,has,List.map_cons,List.map_nil,fC,jC,ah.aJ (dn x.bY),ah.aJ (dn x.bR)]
 have gM:∀i,(T i).length<=i+7:=fun i=>by
  rw[hT];simp only[List.length_map,List.length_append];have:=List.length_take_le i (x.aN.map om);simp[mR];omega
 have hTs:∀i (hi:i<x.aN.length),T i++[[.s [],.sl [[.s x.aN[i].fName,.sl []],[.s [],.sl ((aO x.aN[i].aH).map ah.enc)],[.s (fu x.aN[i].fBody).aQ,.sl ((fu x.aN[i].fBody).aj.map ah.enc)]]]]=T (i+1):=fun i hi=>by
  have:=jc (base:=mR x) (l:=x.aN.map om) (i:=i) (by rw[List.length_map];exact hi);rw[List.getElem_map,om,dZ,dw] at this;simp only[List.map_cons,List.map_nil,fC,jC,ah.aJ (fu x.aN[i].fBody)] at this;rw[hT];exact this
 have hTr:∀i,∀r∈T i,r.length=2:=fun i=>by rw[hT];exact gV
 have hTe:T x.aN.length=(pR x).aj.map ah.enc:=by
  rw[hT];simp only
  rw[List.take_of_length_le (by simp)];rfl
 clear hT;refine zcx [.cell 2 37] func132 ntmps132 ?_;refine W1 ?_;refine bD (oI x (by omega)) ?_;simp -implicitDefEqProofs (disch:=omega) only[go_sem,hv,ha,hs];refine W3 ?_;refine C1 (l7 x.bR (by omega)) ?_;refine W3 ?_;refine C1 (nI _ (by simp) (by simp)) ?_;refine W3 ?_;refine C1 (bS _) ?_;refine C1 (bS _) ?_;refine C1 (dY x.aH (by omega)) ?_;refine C1 (l7 x.bY (by omega)) ?_;refine C1 (xw x.dI (by omega) (fun b hb=>by have:=qg hb;omega)) ?_;refine C1 (dY [nP] (by simp)) ?_;have hE:=fun bV Ω=>jN (T 0) (hTr 0) (by have:=gM 0;omega) bV Ω;simp only[hT0] at hE;refine cK [false] rfl (hE _ _) ?_;refine W1 ?_
 refine aZ (ι:=Nat) zmx rfl [1,2,5,6] (fun i=>[.c (.ptr (0,0) 0),.c (.ptr (0,1) 0),.c (.ptr (0,6) 0),.c (.d (.i .i64 i))])
  (fun i=>[.box [.d (.s x.bO),.d (.sl (x.aH.map encS)),.d (.i .i64 x.bY.aM),.d (.s x.bY.fName),.d (.sl (x.bY.fArgs.map ak.enc)),.d (.sl (x.dI.map bW.enc)),.d (.b true),.d (.b true),.d (.i .i64 x.bR.aM),.d (.s x.bR.fName),.d (.sl (x.bR.fArgs.map ak.enc)),.d (.sl (x.aN.map cO.enc))],.box [.d (.s []),.bF []],.tok 1 [[.s nP]],.box [.d (.s []),.d (.sl [[.s (dn x.bR).aQ,.sl ((dn x.bR).aj.map ah.enc)]])],.box [.d (.s []),.bI (0,5) (T 0)],.tok 2 (T i),.box [.d (.s []),.bI (0,5) (T i)]]::S)
  (fun i=>i<=x.aN.length) (fun i=>x.aN.length-i) 0 rfl (by simp only[hT0]<;>(try rfl)) (Nat.zero_le _) ?_
 intro i hi;have hl:=gM i;refine W1 ?_;refine S0 (fun hb h=>?_) fun hb h=>?_
 ·have hi':i<x.aN.length:=by omega
  have hm:=List.getElem_mem hi';have hcz:=Bb hm;have hce:=cO.sum x.aN[i];rw[dH] at hce;have hst:=hTs i hi';refine W3 ?_;refine C1 (bS _) ?_;refine C1 (dY x.aN[i].aH (by omega)) ?_;refine C1 (uP x.aN[i].fBody (FH _ hm) (by omega)) ?_;refine C1 (nI _ (by simp) (by simp)) ?_;refine W3 ?_;rw[hst];exact bT 7 (by decide) (i+1) (by omega) rfl rfl rfl rfl (by omega)
 ·have hi':i=x.aN.length:=by omega
  subst hi';rw[hTe];refine C1 (rD true (pR x) (by omega)) ?_;rfl
theorem ai5(x:aS)(hv:eX x=true)(hsz:x.sz<=1048576)(ha:x.iK=true)(hs:x.fJ=false):aF prog 132 [x.v] (uO (pR x)).v:=fun S=>by
 have hdz:=aS.sum x;rw[dH] at hdz;obtain⟨hf1,hf2,hf3,FH⟩:=nQ hv;have hz:=Hf hv
 have hfl:j4 x=[nP]:=by unfold j4;rw[ha];rfl
 have has:j5 x=[]:=by unfold j5;rw[hs];rfl
 obtain⟨T,hT⟩:∃T:Nat->List (List D),T=fun i=>(mR x++(x.aN.map om).take i).map ah.enc:=⟨_,rfl⟩
 have hT0:T 0=[[.s mh,.sl []],[.s x.bO,.sl []],[.s [],.sl ((aO x.aH).map ah.enc)],[.s (dn x.bY).aQ,.sl ((dn x.bY).aj.map ah.enc)],[.s [],.sl ((x.dI.map qh).map ah.enc)],[.s [],.sl ((aO [nP]).map ah.enc)],[.s [],.sl []]]:=by
  rw[hT];simp only[List.take_zero,List.append_nil,mR,hfl,has,List.map_cons,List.map_nil,fC,jC,ah.aJ (dn x.bY),ah.aJ (dn x.bR)]
 have gM:∀i,(T i).length<=i+7:=fun i=>by
  rw[hT];simp only[List.length_map,List.length_append];have:=List.length_take_le i (x.aN.map om);simp[mR];omega
 have hTs:∀i (hi:i<x.aN.length),T i++[[.s [],.sl [[.s x.aN[i].fName,.sl []],[.s [],.sl ((aO x.aN[i].aH).map ah.enc)],[.s (fu x.aN[i].fBody).aQ,.sl ((fu x.aN[i].fBody).aj.map ah.enc)]]]]=T (i+1):=fun i hi=>by
  have:=jc (base:=mR x) (l:=x.aN.map om) (i:=i) (by rw[List.length_map];exact hi);rw[List.getElem_map,om,dZ,dw] at this;simp only[List.map_cons,List.map_nil,fC,jC,ah.aJ (fu x.aN[i].fBody)] at this;rw[hT];exact this
 have hTr:∀i,∀r∈T i,r.length=2:=fun i=>by rw[hT];exact gV
 have hTe:T x.aN.length=(pR x).aj.map ah.enc:=by
  rw[hT];simp only
  rw[List.take_of_length_le (by simp)];rfl
 clear hT;refine zcx [.cell 2 37] func132 ntmps132 ?_;refine W1 ?_;refine bD (oI x (by omega)) ?_;simp -implicitDefEqProofs (disch:=omega) only[go_sem,hv,ha,hs];refine W3 ?_;refine C1 (bS _) ?_;refine C1 (bS _) ?_;refine C1 (dY x.aH (by omega)) ?_;refine C1 (l7 x.bY (by omega)) ?_;refine C1 (xw x.dI (by omega) (fun b hb=>by have:=qg hb;omega)) ?_;refine C1 (dY [nP] (by simp)) ?_;have hE:=fun bV Ω=>jN (T 0) (hTr 0) (by have:=gM 0;omega) bV Ω;simp only[hT0] at hE;refine cK [false] rfl (hE _ _) ?_;refine W1 ?_
 refine aZ (ι:=Nat) zmx rfl [1,2,5,6] (fun i=>[.c (.ptr (0,0) 0),.c (.ptr (0,1) 0),.c (.ptr (0,6) 0),.c (.d (.i .i64 i))])
  (fun i=>[.box [.d (.s x.bO),.d (.sl (x.aH.map encS)),.d (.i .i64 x.bY.aM),.d (.s x.bY.fName),.d (.sl (x.bY.fArgs.map ak.enc)),.d (.sl (x.dI.map bW.enc)),.d (.b true),.d (.b false),.d (.i .i64 x.bR.aM),.d (.s x.bR.fName),.d (.sl (x.bR.fArgs.map ak.enc)),.d (.sl (x.aN.map cO.enc))],.box [.d (.s []),.bF []],.tok 1 [[.s nP]],.box [.d (.s []),.bF []],.box [.d (.s []),.bI (0,5) (T 0)],.tok 2 (T i),.box [.d (.s []),.bI (0,5) (T i)]]::S)
  (fun i=>i<=x.aN.length) (fun i=>x.aN.length-i) 0 rfl (by simp only[hT0]<;>(try rfl)) (Nat.zero_le _) ?_
 intro i hi;have hl:=gM i;refine W1 ?_;refine S0 (fun hb h=>?_) fun hb h=>?_
 ·have hi':i<x.aN.length:=by omega
  have hm:=List.getElem_mem hi';have hcz:=Bb hm;have hce:=cO.sum x.aN[i];rw[dH] at hce;have hst:=hTs i hi';refine W3 ?_;refine C1 (bS _) ?_;refine C1 (dY x.aN[i].aH (by omega)) ?_;refine C1 (uP x.aN[i].fBody (FH _ hm) (by omega)) ?_;refine C1 (nI _ (by simp) (by simp)) ?_;refine W3 ?_;rw[hst];exact bT 7 (by decide) (i+1) (by omega) rfl rfl rfl rfl (by omega)
 ·have hi':i=x.aN.length:=by omega
  subst hi';rw[hTe];refine C1 (rD true (pR x) (by omega)) ?_;rfl
theorem ai6(x:aS)(hv:eX x=true)(hsz:x.sz<=1048576)(ha:x.iK=false)(hs:x.fJ=true):aF prog 132 [x.v] (uO (pR x)).v:=fun S=>by
 have hdz:=aS.sum x;rw[dH] at hdz;obtain⟨hf1,hf2,hf3,FH⟩:=nQ hv;have hz:=Hf hv
 have hfl:j4 x=[]:=by unfold j4;rw[ha];rfl
 have has:j5 x=[dn x.bR]:=by unfold j5;rw[hs];rfl
 obtain⟨T,hT⟩:∃T:Nat->List (List D),T=fun i=>(mR x++(x.aN.map om).take i).map ah.enc:=⟨_,rfl⟩
 have hT0:T 0=[[.s mh,.sl []],[.s x.bO,.sl []],[.s [],.sl ((aO x.aH).map ah.enc)],[.s (dn x.bY).aQ,.sl ((dn x.bY).aj.map ah.enc)],[.s [],.sl ((x.dI.map qh).map ah.enc)],[.s [],.sl ((aO []).map ah.enc)],[.s [],.sl [[.s (dn x.bR).aQ,.sl ((dn x.bR).aj.map ah.enc)]]]]:=by
  rw[hT];simp only[List.take_zero,List.append_nil,mR,hfl,has,List.map_cons,List.map_nil,fC,jC,ah.aJ (dn x.bY),ah.aJ (dn x.bR)]
 have gM:∀i,(T i).length<=i+7:=fun i=>by
  rw[hT];simp only[List.length_map,List.length_append];have:=List.length_take_le i (x.aN.map om);simp[mR];omega
 have hTs:∀i (hi:i<x.aN.length),T i++[[.s [],.sl [[.s x.aN[i].fName,.sl []],[.s [],.sl ((aO x.aN[i].aH).map ah.enc)],[.s (fu x.aN[i].fBody).aQ,.sl ((fu x.aN[i].fBody).aj.map ah.enc)]]]]=T (i+1):=fun i hi=>by
  have:=jc (base:=mR x) (l:=x.aN.map om) (i:=i) (by rw[List.length_map];exact hi);rw[List.getElem_map,om,dZ,dw] at this;simp only[List.map_cons,List.map_nil,fC,jC,ah.aJ (fu x.aN[i].fBody)] at this;rw[hT];exact this
 have hTr:∀i,∀r∈T i,r.length=2:=fun i=>by rw[hT];exact gV
 have hTe:T x.aN.length=(pR x).aj.map ah.enc:=by
  rw[hT];simp only
  rw[List.take_of_length_le (by simp)];rfl
 clear hT;refine zcx [.cell 2 37] func132 ntmps132 ?_;refine W1 ?_;refine bD (oI x (by omega)) ?_;simp -implicitDefEqProofs (disch:=omega) only[go_sem,hv,ha,hs];refine W3 ?_;refine C1 (l7 x.bR (by omega)) ?_;refine W3 ?_;refine C1 (nI _ (by simp) (by simp)) ?_;refine W3 ?_;refine C1 (bS _) ?_;refine C1 (bS _) ?_;refine C1 (dY x.aH (by omega)) ?_;refine C1 (l7 x.bY (by omega)) ?_;refine C1 (xw x.dI (by omega) (fun b hb=>by have:=qg hb;omega)) ?_;refine C1 (dY [] (by simp)) ?_;have hE:=fun bV Ω=>jN (T 0) (hTr 0) (by have:=gM 0;omega) bV Ω;simp only[hT0] at hE;refine cK [false] rfl (hE _ _) ?_;refine W1 ?_
 refine aZ (ι:=Nat) zmx rfl [1,2,5,6] (fun i=>[.c (.ptr (0,0) 0),.c (.ptr (0,1) 0),.c (.ptr (0,5) 0),.c (.d (.i .i64 i))])
  (fun i=>[.box [.d (.s x.bO),.d (.sl (x.aH.map encS)),.d (.i .i64 x.bY.aM),.d (.s x.bY.fName),.d (.sl (x.bY.fArgs.map ak.enc)),.d (.sl (x.dI.map bW.enc)),.d (.b false),.d (.b true),.d (.i .i64 x.bR.aM),.d (.s x.bR.fName),.d (.sl (x.bR.fArgs.map ak.enc)),.d (.sl (x.aN.map cO.enc))],.box [.d (.s []),.bF []],.box [.d (.s []),.d (.sl [[.s (dn x.bR).aQ,.sl ((dn x.bR).aj.map ah.enc)]])],.box [.d (.s []),.bI (0,4) (T 0)],.tok 2 (T i),.box [.d (.s []),.bI (0,4) (T i)]]::S)
  (fun i=>i<=x.aN.length) (fun i=>x.aN.length-i) 0 rfl (by simp only[hT0]<;>(try rfl)) (Nat.zero_le _) ?_
 intro i hi;have hl:=gM i;refine W1 ?_;refine S0 (fun hb h=>?_) fun hb h=>?_
 ·have hi':i<x.aN.length:=by omega
  have hm:=List.getElem_mem hi';have hcz:=Bb hm;have hce:=cO.sum x.aN[i];rw[dH] at hce;have hst:=hTs i hi';refine W3 ?_;refine C1 (bS _) ?_;refine C1 (dY x.aN[i].aH (by omega)) ?_;refine C1 (uP x.aN[i].fBody (FH _ hm) (by omega)) ?_;refine C1 (nI _ (by simp) (by simp)) ?_;refine W3 ?_;rw[hst];exact bT 6 (by decide) (i+1) (by omega) rfl rfl rfl rfl (by omega)
 ·have hi':i=x.aN.length:=by omega
  subst hi';rw[hTe];refine C1 (rD true (pR x) (by omega)) ?_;rfl
theorem ai7(x:aS)(hv:eX x=true)(hsz:x.sz<=1048576)(ha:x.iK=false)(hs:x.fJ=false):aF prog 132 [x.v] (uO (pR x)).v:=fun S=>by
 have hdz:=aS.sum x;rw[dH] at hdz;obtain⟨hf1,hf2,hf3,FH⟩:=nQ hv;have hz:=Hf hv
 have hfl:j4 x=[]:=by unfold j4;rw[ha];rfl
 have has:j5 x=[]:=by unfold j5;rw[hs];rfl
 obtain⟨T,hT⟩:∃T:Nat->List (List D),T=fun i=>(mR x++(x.aN.map om).take i).map ah.enc:=⟨_,rfl⟩
 have hT0:T 0=[[.s mh,.sl []],[.s x.bO,.sl []],[.s [],.sl ((aO x.aH).map ah.enc)],[.s (dn x.bY).aQ,.sl ((dn x.bY).aj.map ah.enc)],[.s [],.sl ((x.dI.map qh).map ah.enc)],[.s [],.sl ((aO []).map ah.enc)],[.s [],.sl []]]:=by
  rw[hT];simp only[List.take_zero,List.append_nil,mR,hfl,has,List.map_cons,List.map_nil,fC,jC,ah.aJ (dn x.bY),ah.aJ (dn x.bR)]
 have gM:∀i,(T i).length<=i+7:=fun i=>by
  rw[hT];simp only[List.length_map,List.length_append];have:=List.length_take_le i (x.aN.map om);simp[mR];omega
 have hTs:∀i (hi:i<x.aN.length),T i++[[.s [],.sl [[.s x.aN[i].fName,.sl []],[.s [],.sl ((aO x.aN[i].aH).map ah.enc)],[.s (fu x.aN[i].fBody).aQ,.sl ((fu x.aN[i].fBody).aj.map ah.enc)]]]]=T (i+1):=fun i hi=>by
  have:=jc (base:=mR x) (l:=x.aN.map om) (i:=i) (by rw[List.length_map];exact hi);rw[List.getElem_map,om,dZ,dw] at this;simp only[List.map_cons,List.map_nil,fC,jC,ah.aJ (fu x.aN[i].fBody)] at this;rw[hT];exact this
 have hTr:∀i,∀r∈T i,r.length=2:=fun i=>by rw[hT];exact gV
 have hTe:T x.aN.length=(pR x).aj.map ah.enc:=by
  rw[hT];simp only
  rw[List.take_of_length_le (by simp)];rfl
 clear hT;refine zcx [.cell 2 37] func132 ntmps132 ?_;refine W1 ?_;refine bD (oI x (by omega)) ?_;simp -implicitDefEqProofs (disch:=omega) only[go_sem,hv,ha,hs];refine W3 ?_;refine C1 (bS _) ?_;refine C1 (bS _) ?_;refine C1 (dY x.aH (by omega)) ?_;refine C1 (l7 x.bY (by omega)) ?_;refine C1 (xw x.dI (by omega) (fun b hb=>by have:=qg hb;omega)) ?_;refine C1 (dY [] (by simp)) ?_;have hE:=fun bV Ω=>jN (T 0) (hTr 0) (by have:=gM 0;omega) bV Ω;simp only[hT0] at hE;refine cK [false] rfl (hE _ _) ?_;refine W1 ?_
 refine aZ (ι:=Nat) zmx rfl [1,2,5,6] (fun i=>[.c (.ptr (0,0) 0),.c (.ptr (0,1) 0),.c (.ptr (0,5) 0),.c (.d (.i .i64 i))])
  (fun i=>[.box [.d (.s x.bO),.d (.sl (x.aH.map encS)),.d (.i .i64 x.bY.aM),.d (.s x.bY.fName),.d (.sl (x.bY.fArgs.map ak.enc)),.d (.sl (x.dI.map bW.enc)),.d (.b false),.d (.b false),.d (.i .i64 x.bR.aM),.d (.s x.bR.fName),.d (.sl (x.bR.fArgs.map ak.enc)),.d (.sl (x.aN.map cO.enc))],.box [.d (.s []),.bF []],.box [.d (.s []),.bF []],.box [.d (.s []),.bI (0,4) (T 0)],.tok 2 (T i),.box [.d (.s []),.bI (0,4) (T i)]]::S)
  (fun i=>i<=x.aN.length) (fun i=>x.aN.length-i) 0 rfl (by simp only[hT0]<;>(try rfl)) (Nat.zero_le _) ?_
 intro i hi;have hl:=gM i;refine W1 ?_;refine S0 (fun hb h=>?_) fun hb h=>?_
 ·have hi':i<x.aN.length:=by omega
  have hm:=List.getElem_mem hi';have hcz:=Bb hm;have hce:=cO.sum x.aN[i];rw[dH] at hce;have hst:=hTs i hi';refine W3 ?_;refine C1 (bS _) ?_;refine C1 (dY x.aN[i].aH (by omega)) ?_;refine C1 (uP x.aN[i].fBody (FH _ hm) (by omega)) ?_;refine C1 (nI _ (by simp) (by simp)) ?_;refine W3 ?_;rw[hst];exact bT 6 (by decide) (i+1) (by omega) rfl rfl rfl rfl (by omega)
 ·have hi':i=x.aN.length:=by omega
  subst hi';rw[hTe];refine C1 (rD true (pR x) (by omega)) ?_;rfl
theorem Xk(x:aS)(hsz:x.sz<=1048576):aF prog 132 [x.v] (Gf x).v:=by
 unfold Gf
 cases hv:eX x with
 |false=>
  rw[vv];refine aF.less (fun S=> ?_) (AV [] []);refine zcx [.cell 2 37] func132 ntmps132 ?_;refine W1 ?_;refine bD (oI x (by omega)) ?_;simp -implicitDefEqProofs (disch:=omega) only[go_sem,hv]
 |true=>
  rw[vv]
  cases ha:x.iK with
  |true=>
   cases hs:x.fJ with
   |true=>exact ai4 x hv hsz ha hs
   |false=>exact ai5 x hv hsz ha hs
  |false=>
   cases hs:x.fJ with
   |true=>exact ai6 x hv hsz ha hs
   |false=>exact ai7 x hv hsz ha hs
end Go.Ab