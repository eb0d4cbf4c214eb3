/-
  SEVERAL TEXTS IN ONE (merged by program): contracts and models, each with its own heading.
-/
import Derived.Test.YtbaefeecjjhhkaaGreatDoorPartOcbM
set_option maxHeartbeats 8000000
open Go.Proofs Go.Proofs.Tryz
set_option linter.unusedSimpArgs false
set_option linter.unusedVariables false
set_option maxRecDepth 4000
namespace Go.Ab
noncomputable def mW(m:bX):Bool:=dec (1<=m.aF.length)&&(dec (m.aF.length<=5)&&nA m.aF m.fBody)
noncomputable def mI(x:aT):List (List UInt8):=x.aN.map bX.fName
noncomputable def vC(x:aT):Bool:=validName x.bG&&(dec (x.aF.length<=3)&&(iN x.aF&&(gY x.aF x.bO&&(!rW x.bO&&(dec (x.bO.aM=2\/x.bO.aM=1)&&(among x.aF (jG [] x.bO)&&(qC x.aF x.dh&&((if x.eH=true then gY x.aF x.bI else dec (xY x.bI))&&dec (x.aN.length<=6)))))))))
noncomputable def eX(x:aT):Bool:=vC x&&(x.aN.all mW&&iN (mI x))
theorem aT.sum(x:aT):x.bG.length+(x.aF.length+bf (x.aF.map encS))+x.bO.sz+(x.dh.length+bf (x.dh.map bS.enc))+x.bI.sz+(x.aN.length+bf (x.aN.map bX.enc))<=x.sz:=by
 simp only[aT.sz,aT.aQ,dz,bW,D.sz,List.length_map,ak.iD];omega
theorem bX.sum(x:bX):x.fName.length+(x.aF.length+bf (x.aF.map encS))+x.fBody.sz<=x.sz:=by
 simp only[bX.sz,bX.aQ,dz,bW,D.sz,List.length_map,ay.iD];omega
theorem AU{xs:List bX}{t:bX}(h:t∈xs):t.sz<=bf (xs.map bX.enc):=cB (List.mem_map_of_mem h)
theorem TB(v:List UInt8):∀(us:List ak)(out:List (List UInt8)),v∈us.foldl vS out<->v∈out\/0<us.countP (OH v)
 |[],out=>by simp
 |u::us,out=>by
  rw[List.foldl_cons,TB v us,List.countP_cons]
  have h:v∈vS out u<->v∈out\/OH v u=true:=by
   unfold vS OH;split
   ·rename_i h;simp only[List.mem_append,List.mem_singleton];constructor
    ·rintro(h1|h1)
     ·exact .inl h1
     ·right;simp[h1,h.1]
    ·rintro(h1|h1)
     ·exact .inl h1
     ·right;simp at h1;exact h1.2.symm
   ·rename_i h;constructor
    ·exact .inl
    ·rintro(h1|h1)
     ·exact h1
     ·simp at h1;by_cases e:u.fName∈out
      ·rw[<-h1.2];exact e
      ·exact absurd ⟨h1.1,e⟩ h
  rw[h]
  cases OH v u<;>simp
theorem adh(v:List UInt8)(t:ak):occurs v t=dec (v∈jG [] t):=by
 unfold occurs jG rH;rw[j5];exact iC (by rw[TB];simp)
theorem adi{t:ak}(h:oo t=true):t.aM=1\/t.aM=2\/t.aM=3\/t.aM=4:=by
 have h1:=(gq h).1;rw[yO,Bool.and_eq_true] at h1;have h2:=gq h1.1;omega
theorem af4{t:ak}(h:rW t=false):t.aM≠3:=by
 rw[Iu] at h;intro e;simp[e] at h
theorem EM(x:aT)(hsz:x.sz<=4194304):aC prog 109 [x.v] (.c (.d (.b (eX x)))):=fun S=>by
 have hs:=aT.sum x
 have hV:∀s∈x.aF,s.length<=4194304:=fun s h=>by have:=sD h;omega
 have hW:∀b∈x.dh,b.sz<=4194304:=fun b h=>by have:=qx h;omega
 have hM:∀m∈x.aN,m.sz<=4194304:=fun m h=>by have:=AU h;omega
 have no:vC x=false->V.c (.d (.b false))=V.c (.d (.b (eX x))):=fun h=>aH (by unfold eX;rw[h];rfl);refine(show Hold (vC x=true-> ?T)->_ from fun tail=> ?main) ?tp
 case' main=>
  refine zcx [.tmp 2] func109 ntmps109 ?_;refine W1 ?_
  repeat' (first
   |refine S0 (fun hb h=>?_) fun hb h=>?_
   |((with_reducible show fA _ _ 103 _ _ _ _);refine aX (iI x.bG (by omega)) ?_;refine W1 ?_)
   |((with_reducible show fA _ _ 104 _ _ _ _);refine aX (pG x.aF (by omega) hV) ?_;refine W1 ?_)
   |((with_reducible show fA _ _ 166 _ _ _ _);refine aX (u7 x.bO x.aF (by omega) (by omega)) ?_;refine W1 ?_)
   |((with_reducible show fA _ _ 166 _ _ _ _);refine aX (u7 x.bI x.aF (by omega) (by omega)) ?_;refine W1 ?_)
   |((with_reducible show fA _ _ 167 _ _ _ _);refine aX (Gy x.bO (by omega)) ?_;refine W1 ?_)
   |((with_reducible show fA _ _ 169 _ _ _ _);refine aX (zI x.bO (by omega)) ?_;refine W1 ?_)
   |((with_reducible show fA _ _ 168 _ _ _ _);refine aX (Bl x.aF (jG [] x.bO) (by omega) (PX _ (by omega))) ?_;refine W1 ?_)
   |((with_reducible show fA _ _ 170 _ _ _ _);refine aX (KJ x.dh x.aF (by omega) hW (by omega)) ?_;refine W1 ?_)
   |((with_reducible show fA _ _ 171 _ _ _ _);refine aX (Jo x.bI) ?_;refine W1 ?_)
   |(refine no ?_;unfold vC;grind [gq,jc,bD,aK]))
  all_goals
   have hh:vC x=true:=by unfold vC;grind [gq,jc,bD,aK]
   refine W3 ?_;refine lQ 3 1 [] rfl (by simp) ?_;refine nP (st':=[.box (x.enc.map .d),.tok 1 []]::S) [3,91,92,93] [.c (.bB (0,1) []),.c (.d (.sl (x.aN.map bX.enc))),.c (.d (.i .i64 x.aN.length)),.c (.d (.i .i64 0))] ?_ ?_ ?_
   ·rfl
   ·first|(refine W1 ?_;done)|(refine W1 ?_;simp[*])
   ·exact tail.out hh
 refine⟨fun hh=> ?_⟩
 have bad:∀i,∀hi:i<x.aN.length,mW x.aN[i]=false->V.c (.d (.b false))=V.c (.d (.b (eX x))):=fun i hi h=>by
  have:x.aN.all mW=false:=Bool.eq_false_iff.2 fun hx=>by
   rw[List.all_eq_true.1 hx _ (List.getElem_mem hi)] at h;cases h
  unfold eX
  rw[this];simp
 refine aR (ι:=Nat×List (List UInt8)) zmx rfl [3,91,92,93] (fun y=>[.c (.bB (0,1) (y.2.map encS)),.c (.d (.sl (x.aN.map bX.enc))),.c (.d (.i .i64 x.aN.length)),.c (.d (.i .i64 y.1))]) (fun y=>[.box (x.enc.map .d),.tok 1 (y.2.map encS)]::S)
  (fun y=>y.1<=x.aN.length/\y.2=(mI x).take y.1/\∀j,∀hj:j<x.aN.length,j<y.1->mW x.aN[j]=true) (fun y=>x.aN.length-y.1) (0,[]) rfl ?_ ⟨Nat.zero_le _,rfl,fun j _ h=>by simp only at h;omega⟩ ?_
 ·exact Z1
 rintro⟨i,names⟩ ⟨p1,p2,p3⟩;simp only at p1 p2 p3
 have pl:names.length<=x.aN.length:=by rw[p2];simp[mI];omega
 refine W1 ?_;refine S0 (fun hb h=>?_) fun hb h=>?_
 ·have hi:i<x.aN.length:=by omega
  have hm:=hM _ (List.getElem_mem hi);have hms:=bX.sum x.aN[i]
  have hmv:∀s∈x.aN[i].aF,s.length<=4194304:=fun s h=>by have:=sD h;omega
  refine W3 ?_;refine S0 (fun hb h=>?_) fun hb h=>?_
  ·exact bad i hi (by unfold mW;rw[aK (by omega)];rfl)
  refine W3 ?_;refine S0 (fun hb h=>?_) fun hb h=>?_
  ·exact bad i hi (by unfold mW;rw[aK (show ¬x.aN[i].aF.length<=5 by omega)];simp)
  refine W3 ?_;refine C2 (KI x.aN[i].aF x.aN[i].fBody (by omega) hmv (by omega)) ?_;refine S0 (fun hb h=>?_) fun hb h=>?_
  ·exact bad i hi (by unfold mW;rw[h];simp)
  have k2:=h
  have k3:mW x.aN[i]=true:=by unfold mW;rw[k2,bD (by omega),bD (by omega)];rfl
  refine W3 ?_;rw[show List.map encS names++[[D.s x.aN[i].fName]]=List.map encS (names++[x.aN[i].fName]) by simp[encS]]
  exact bL 2 (by decide) (i+1,names++[x.aN[i].fName]) (by simp only;omega) rfl rfl rfl rfl ⟨by simp only;omega,by simp only;rw[p2,iU (by simpa [mI] using hi)];simp[mI],fun j hj hji=>by
   simp only at hji;by_cases e:j=i
   ·subst e;exact k3
   ·exact p3 j hj (by omega)⟩
 have hi:i=x.aN.length:=by omega
 have hn:names=mI x:=by rw[p2,List.take_of_length_le (by simp[mI];omega)]
 have hall:x.aN.all mW=true:=List.all_eq_true.2 fun c hc=>by
  obtain⟨j,hj,e⟩:=List.getElem_of_mem hc;rw[<-e];exact p3 j hj (by omega)
 have hnl:∀s∈names,s.length<=4194304:=fun s hm=>by
  rw[hn] at hm;obtain⟨g,hg,e⟩:=List.mem_map.1 hm;have:=hM g hg;have:=bX.sum g;rw[<-e];omega
 refine C2 (pG names (by omega) hnl) ?_;exact aH (by unfold eX;rw[hh,hall,hn];rfl)
theorem oQ(x:aT)(hsz:x.sz<=4194304):aC prog 139 [x.v] (.c (.d (.b (eX x)))):=fun S=>by
 have hs:=aT.sum x
 have hV:∀s∈x.aF,s.length<=4194304:=fun s h=>by have:=sD h;omega
 have hW:∀b∈x.dh,b.sz<=4194304:=fun b h=>by have:=qx h;omega
 have hM:∀m∈x.aN,m.sz<=4194304:=fun m h=>by have:=AU h;omega
 have bad:x.aN.all mW=false->V.c (.d (.b false))=V.c (.d (.b (eX x))):=fun h=>aH (by unfold eX;rw[h];simp);have no:vC x=false->V.c (.d (.b false))=V.c (.d (.b (eX x))):=fun h=>aH (by unfold eX;rw[h];rfl)
 have hk:gY x.aF x.bO=true->rW x.bO=false->(x.bO.aM=1\/x.bO.aM=2\/x.bO.aM=4):=fun h1 h2=>by
  unfold gY at h1;rw[Bool.and_eq_true] at h1;have:=adi h1.1;have:=af4 h2;omega
 refine zcx [.tmp 2] func139 ntmps139 ?_;refine W1 ?_
 repeat' (first
  |refine S0 (fun hb h=>?_) fun hb h=>?_
  |((with_reducible show fA _ _ 120 _ _ _ _);refine aX (iJ x.bG (by omega)) ?_;refine W1 ?_)
  |((with_reducible show fA _ _ 121 _ _ _ _);refine aX (mU x.aF 3 (by omega) hV) ?_;refine W1 ?_)
  |((with_reducible show fA _ _ 195 _ _ _ _);refine aX (uM x.bO x.aF (by omega) (by omega)) ?_;refine W1 ?_)
  |((with_reducible show fA _ _ 196 _ _ _ _);refine aX (Gx x.bO (by omega)) ?_;refine W1 ?_)
  |((with_reducible show fA _ _ 197 _ _ _ _);refine aX (MN x.dh x.aF (by omega) hW (by omega)) ?_;refine W1 ?_)
  |(refine no ?_;unfold vC;grind [gq,jc,bD,aK]))
 all_goals
  have h1:validName x.bG=true:=by assumption
  have h2:(dec ((x.aF.length:Int)<=3)&&iN x.aF)=true:=by assumption
  have h3:gY x.aF x.bO=true:=by assumption
  have h4:rW x.bO=false:=by assumption
  have h5:¬x.bO.aM=4:=by assumption
  have h6:qC x.aF x.dh=true:=by assumption
 have h7:=hk h3 h4;clear hk;rw[Bool.and_eq_true] at h2;have h8:=gq h2.1
 have pre:vC x=(among x.aF (jG [] x.bO)&&((if x.eH=true then gY x.aF x.bI else dec (xY x.bI))&&dec (x.aN.length<=6))):=by
  unfold vC;rw[h1,h2.2,h3,h4,h6,bD (show x.aF.length<=3 by omega),bD (show x.bO.aM=2\/x.bO.aM=1 by omega)]
  simp
 clear h1 h2 h3 h4 h5 h6 h7 h8
 refine aR (ι:=Nat) zmx rfl [1,3] (fun i=>[.c (.ptr (0,0) 0),.c (.d (.i .i64 i))]) (fun _=>[.box (x.enc.map .d)]::S)
  (fun i=>i<=x.aF.length/\among (x.aF.drop i) (jG [] x.bO)=among x.aF (jG [] x.bO)) (fun i=>x.aF.length-i) 0 rfl ?_ ⟨Nat.zero_le _,rfl⟩ ?_
 ·exact Z1
 rintro i ⟨p1,p2⟩;simp -implicitDefEqProofs (disch:=omega) only[go_sem,encS]
 with_reducible refine dZ (fun hb=> ?_) (fun hb=> ?_)<;>have h:=hb<;>(try simp only[wf_preprocess] at h)<;>simp -implicitDefEqProofs (disch:=omega) only[go_sem,hb,encS]<;>refine W3 ?_
 ·have hi:i<x.aF.length:=by omega
  rw[List.drop_eq_getElem_cons hi] at p2;have p3:among x.aF (jG [] x.bO)=(dec (x.aF[i]∈jG [] x.bO)&&among (x.aF.drop (i+1)) (jG [] x.bO)):=p2.symm;refine W3 ?_;refine C2 (Un x.aF[i] x.bO (by omega)) ?_;rw[adh];refine S0 (fun hb h=>?_) fun hb h=>?_
  ·exact no (by rw[pre,p3,aK h];rfl)
  ·exact bV (i+1) (by omega) rfl rfl ⟨by omega,by rw[p3,bD h];rfl⟩
 rw[List.drop_of_length_le (by omega)] at p2;have p3:among x.aF (jG [] x.bO)=true:=p2.symm;rw[p3,Bool.true_and] at pre;refine(show Hold ((if x.eH=true then gY x.aF x.bI else dec (xY x.bI))=true-> ?T)->_ from fun tail=> ?main) ?tp
 case' main=>
  repeat' (first
   |refine S0 (fun hb h=>?_) fun hb h=>?_
   |((with_reducible show fA _ _ 195 _ _ _ _);refine aX (uM x.bI x.aF (by omega) (by omega)) ?_;refine W1 ?_)
   |((with_reducible show fA _ _ 199 _ _ _ _);refine aX (PD x.bI) ?_;refine W1 ?_)
   |(refine no ?_;rw[pre];grind [gq,jc,bD,aK]))
  all_goals
   have hh:(if x.eH=true then gY x.aF x.bI else dec (xY x.bI))=true:=by grind [gq,jc,bD,aK]
   refine W3 ?_;refine lQ 4 1 [] rfl (by simp) ?_;refine nP (st':=[.box (x.enc.map .d),.tok 1 []]::S) [1,4,5] [.c (.ptr (0,0) 0),.c (.bB (0,1) []),.c (.d (.i .i64 0))] ?_ ?_ ?_
   ·rfl
   ·first|(refine W1 ?_;done)|(refine W1 ?_;simp[*])
   ·exact tail.out hh
 refine⟨fun hh=> ?_⟩;rw[hh,Bool.true_and] at pre;clear p2 p3 p1 hh no
 have aji:∀i,∀hi:i<x.aN.length,mW x.aN[i]=false->V.c (.d (.b false))=V.c (.d (.b (eX x))):=fun i hi h=>bad (Bool.eq_false_iff.2 fun hx=>by
  rw[List.all_eq_true.1 hx _ (List.getElem_mem hi)] at h;cases h)
 refine aR (ι:=Nat×List (List UInt8)) zmx rfl [1,4,5] (fun y=>[.c (.ptr (0,0) 0),.c (.bB (0,1) (y.2.map encS)),.c (.d (.i .i64 y.1))]) (fun y=>[.box (x.enc.map .d),.tok 1 (y.2.map encS)]::S)
  (fun y=>y.1<=x.aN.length/\y.2=(mI x).take y.1/\∀j,∀hj:j<x.aN.length,j<y.1->mW x.aN[j]=true) (fun y=>x.aN.length-y.1) (0,[]) rfl ?_ ⟨Nat.zero_le _,rfl,fun j _ h=>by simp only at h;omega⟩ ?_
 ·exact Z1
 rintro⟨i,names⟩ ⟨p1,p2,p3⟩;simp only at p1 p2 p3
 have pl:names.length<=x.aN.length:=by rw[p2];simp[mI];omega
 refine W1 ?_;refine S0 (fun hb h=>?_) fun hb h=>?_
 ·have hi:i<x.aN.length:=by omega
  have hm:=hM _ (List.getElem_mem hi);have hms:=bX.sum x.aN[i]
  have hmv:∀s∈x.aN[i].aF,s.length<=4194304:=fun s h=>by have:=sD h;omega
  refine W3 ?_;refine S0 (fun hb h=>?_) fun hb h=>?_
  ·exact aji i hi (by unfold mW;rw[aK (by omega)];rfl)
  refine W3 ?_;refine C2 (mU x.aN[i].aF 5 (by omega) hmv) ?_;refine S0 (fun hb h=>?_) fun hb h=>?_
  ·refine aji i hi ?_;unfold mW nA
   have:(dec (x.aN[i].aF.length<=5)&&iN x.aN[i].aF)=false:=by
    rw[<-h];congr 1;exact iC ⟨fun h=>by omega,fun h=>by omega⟩
   rw[<-Bool.and_assoc (dec (x.aN[i].aF.length<=5)),this];simp
  have k1:=h;rw[Bool.and_eq_true] at k1;have k4:=gq k1.1;refine W3 ?_;refine C2 (I4 x.aN[i].aF x.aN[i].fBody (by omega) (by omega)) ?_;refine S0 (fun hb h=>?_) fun hb h=>?_
  ·exact aji i hi (by unfold mW nA;rw[h];simp)
  have k2:=h
  have k3:mW x.aN[i]=true:=by unfold mW nA;rw[k2,k1.2,bD (by omega),bD (by omega)];rfl
  refine W3 ?_;rw[show List.map encS names++[[D.s x.aN[i].fName]]=List.map encS (names++[x.aN[i].fName]) by simp[encS]]
  exact bL 2 (by decide) (i+1,names++[x.aN[i].fName]) (by simp only;omega) rfl rfl rfl rfl ⟨by simp only;omega,by simp only;rw[p2,iU (by simpa [mI] using hi)];simp[mI],fun j hj hji=>by
   simp only at hji;by_cases e:j=i
   ·subst e;exact k3
   ·exact p3 j hj (by omega)⟩
 have hi:i=x.aN.length:=by omega
 have hn:names=mI x:=by rw[p2,List.take_of_length_le (by simp[mI];omega)]
 have hall:x.aN.all mW=true:=List.all_eq_true.2 fun c hc=>by
  obtain⟨j,hj,e⟩:=List.getElem_of_mem hc;rw[<-e];exact p3 j hj (by omega)
 have hnl:∀s∈names,s.length<=4194304:=fun s hm=>by
  rw[hn] at hm;obtain⟨g,hg,e⟩:=List.mem_map.1 hm;have:=hM g hg;have:=bX.sum g;rw[<-e];omega
 have hlen:names.length=x.aN.length:=by rw[hn];simp[mI]
 refine C2 (mU names 6 (by omega) hnl) ?_;refine aH ?_;unfold eX;rw[pre,hall,hn,Bool.true_and];congr 1;rw[<-hn,hlen];exact iC ⟨fun h=>by omega,fun h=>by omega⟩
def Ai(P:Program)(N:Nat)(g:St->St):Nat->Code->(Exit->St->Prop)->St->Prop
 |0,c,Q,s=>CW P N c Q (g s)
 |k+1,.seq x y,Q,s=>CW P N x (lG (Ai P N g k y Q) Q) s
 |_,_,_,_=>False
theorem XG{P:Program}{N:Nat}{g:St->St}{c:Code}{Q:Exit->St->Prop}{s:St}:Ai P N g 0 c Q s=CW P N c Q (g s):=by rw[Ai]
theorem AV{P:Program}{N k:Nat}{g:St->St}{x y:Code}{Q:Exit->St->Prop}{s:St}:Ai P N g (k+1) (.seq x y) Q s=CW P N x (lG (Ai P N g k y Q) Q) s:=by rw[Ai]
theorem ajj{P:Program}{N:Nat}{g:St->St}{x y:Code}{Q:Exit->St->Prop}{s:St}:Ai P N g 5 (.seq x y) Q s=CW P N x (lG (Ai P N g 4 y Q) Q) s:=AV
theorem ajk{P:Program}{N:Nat}{g:St->St}{x y:Code}{Q:Exit->St->Prop}{s:St}:Ai P N g 4 (.seq x y) Q s=CW P N x (lG (Ai P N g 3 y Q) Q) s:=AV
theorem af5{P:Program}{N:Nat}{g:St->St}{x y:Code}{Q:Exit->St->Prop}{s:St}:Ai P N g 3 (.seq x y) Q s=CW P N x (lG (Ai P N g 2 y Q) Q) s:=AV
theorem alY{P:Program}{N:Nat}{g:St->St}{x y:Code}{Q:Exit->St->Prop}{s:St}:Ai P N g 2 (.seq x y) Q s=CW P N x (lG (Ai P N g 1 y Q) Q) s:=AV
theorem alZ{P:Program}{N:Nat}{g:St->St}{x y:Code}{Q:Exit->St->Prop}{s:St}:Ai P N g 1 (.seq x y) Q s=CW P N x (lG (Ai P N g 0 y Q) Q) s:=AV
attribute [go_sem] XG ajj ajk af5 alY alZ
theorem TD{P:Program}{N:Nat}{g:St->St}(hg:∀s,gU N s (g s))(eP:P.follows .mixedOrders=true):∀(k:Nat)(c:Code)(Q:Exit->St->Prop)(s:St),codeOk N c=true->Ai P N g k c Q s->AW P N c Q s
 |0,c,Q,s,ok,h=>by
  rw[XG] at h;exact ni (iB eP c Q _ ok h) (hg s)
 |k+1,.seq x y,Q,s,ok,h=>by
  rw[AV] at h;simp only[codeOk,Bool.and_eq_true] at ok;refine JM (AW.mono (iB eP x _ s ok.1 h) fun e s' h'=> ?_)
  cases e with
  |normal=>exact TD hg eP k y Q s' ok.2 h'
  |_=>exact h'
 |k+1,.region ..,_,_,_,h=>h.elim
 |k+1,.cond ..,_,_,_,h=>h.elim
 |k+1,.block ..,_,_,_,h=>h.elim
 |k+1,.exit ..,_,_,_,h=>h.elim
 |k+1,.ret,_,_,_,h=>h.elim
 |k+1,.skip,_,_,_,h=>h.elim
 |k+1,.loop ..,_,_,_,h=>h.elim
theorem Bw{P:Program}{S:Store}{N:Nat}(n k n' pos:Nat){f:FuncId}{fn:Func}{c:Code}{args:List V}{post:V->Store->Prop}{rs:List ResultVar}(eP:P.follows .mixedOrders=true)(hf:P.funcs[f]? =some fn)(hN:fn.ntmps=N)
 (hb:fn.body=some c) (hn:(fn.name== "runtime.NumGoroutine")=false) (hr:fn.results.toList=rs) (hl:Nat.ble args.length N=true) (hok:codeOk N c=true)
 (h:Ai P N (EF n') pos c (Rk P n rs post) ⟨pz (args.map (V.up 1)) 0,[.seed n,.seed k]::S⟩):dw P f args S post:=by
 subst hN;subst hr;exact qW hf hb hn (Nat.le_of_ble_eq_true hl) (WY n k (wD (zR n) (TD (GY n') eP pos c _ _ hok h)))
def kH:List UInt8:=[105,110,115,116]
def nX:List UInt8:=[100,101,102,97,117,108,116]
def kE(x:aT):List (List UInt8):=if x.gQ=true then [nX] else []
def kF(x:aT):List aj:=if x.eH=true then [bZ x.bI] else []
def oC(m:bX):aj:=bq [bF m.fName,bq (aP m.aF),fu m.fBody]
def mJ(x:aT):List aj:=[bF kH,bF x.bG,bq (aP x.aF),bZ x.bO,bq (x.dh.map qy),bq (aP (kE x)),bq (kF x)]
def oV(x:aT):aj:=bq (mJ x++x.aN.map oC)
noncomputable def AX(x:aT):aj:=qM (eX x) (oV x)
theorem al0{x:aT}(h:x.sz<=1048576):(AX x).sz<=1048576:=Nat.le_trans (GH _ _) (by decide)
theorem al1(m:bX)(hok:iV m.fBody=true):(oC m).sz<=27+32*m.sz:=by
 have h1:=KD m.fBody hok;have h3:=bX.sum m;rw[dB] at h3;rw[oC,jh];simp[cZ,jI,jh,jA,qY];omega
theorem XH:∀l:List bX,(∀g∈l,iV g.fBody=true)->cZ (l.map oC)<=27*l.length+32*bf (l.map bX.enc)
 |[],_=>by simp[cZ]
 |c::l,h=>by
  have h1:=al1 c (h c (List.mem_cons_self ..));have h2:=XH l fun g hg=>h g (List.mem_cons_of_mem _ hg);rw[List.map_cons,cZ,List.map_cons,bf,List.length_cons];simp only[bX.sz] at h1;omega
theorem nY{x:aT}(h:eX x=true):formed x.bO=true/\(∀b∈x.dh,formed b.fType=true)/\(x.eH=true->formed x.bI=true)/\(∀m∈x.aN,iV m.fBody=true):=by
 unfold eX vC at h;simp only[Bool.and_eq_true] at h;obtain⟨⟨_,_,_,h1,_,_,_,h2,h3,_⟩,h4,_⟩:=h;refine⟨vW h1,C8 h2,fun ha=> ?_,fun m hm=> ?_⟩
 ·rw[if_pos ha] at h3;exact vW h3
 ·have h5:=List.all_eq_true.1 h4 m hm;unfold mW at h5;simp only[Bool.and_eq_true] at h5;exact Fv h5.2.2
theorem He{x:aT}(hok:eX x=true):(oV x).sz<=96+40*x.sz:=by
 obtain⟨_,_,_,hm⟩:=nY hok;have h1:=XH x.aN hm;have h2:=Ro x.dh;have h3:=aT.sum x;have h4:=BS x.bO;have h5:=BS x.bI
 have h6:(kE x).length<=1/\((kE x).map List.length).sum<=7:=by unfold kE;split<;>simp[nX]
 have h7:(kF x).length<=1/\cZ (kF x)<=(bZ x.bI).sz:=by unfold kF;split<;>simp[cZ]
 rw[dB] at h3;rw[oV,jh,gM,List.length_append,List.length_map];simp[mJ,cZ,jI,jh,jA,qY,kH];omega
theorem adj(n:Nat)(a b:List UInt8)(w v:List (List UInt8))(h:aj)(bs zs:List aj):lx [bF a,bF b,bq (aP w),h,bq bs,bq (aP v),bq zs] (n+1)=[[.s a,.ol (n+1) []],[.s b,.ol (n+1+1) []],[.s [],.ol (n+1+1+1) (lx (aP w) (n+1+1+1+1))],[.s h.aG,.ol (n+1+1+1+dQ (bq (aP w))) (lx h.ah (n+1+1+1+dQ (bq (aP w))+1))],[.s [],.ol (n+1+1+1+dQ (bq (aP w))+dQ h) (lx bs (n+1+1+1+dQ (bq (aP w))+dQ h+1))],
 [.s [],.ol (n+1+1+1+dQ (bq (aP w))+dQ h+dQ (bq bs)) (lx (aP v) (n+1+1+1+dQ (bq (aP w))+dQ h+dQ (bq bs)+1))],[.s [],.ol (n+1+1+1+dQ (bq (aP w))+dQ h+dQ (bq bs)+dQ (bq (aP v))) (lx zs (n+1+1+1+dQ (bq (aP w))+dQ h+dQ (bq bs)+dQ (bq (aP v))+1))]]:=by
 simp only[jK,ny,jJ,kX,kY,dW,bY,jZ]
theorem XI(n:Nat)(es:List (List D)):Less (.c (.d (.ol n es))) (.c (.d (.sl es))):=fun w σ S β v h=>⟨tK h.1,h.2⟩
theorem EN(x:aT)(n:Nat)(hv:eX x=true)(hsz:x.sz<=1048576):aC prog 69 [x.v] (.agg [.d (.s []),.d (.ol n (lx (oV x).ah (n+1)))]):=fun S=>by
 have hdz:=aT.sum x;rw[dB] at hdz;obtain⟨hf1,hf2,hf3,Fw⟩:=nY hv;obtain⟨p,hp⟩:∃p:Nat,p=n+1+1+1+dQ (bq (aP x.aF))+dQ (bZ x.bO)+dQ (bq (x.dh.map qy))+dQ (bq (aP (kE x))):=⟨_,rfl⟩;obtain⟨L,hL⟩:∃L:Nat->Nat,L=fun i=>n+1+iQ (mJ x++(x.aN.map oC).take i):=⟨_,rfl⟩;obtain⟨T,hT⟩:∃T:Nat->List (List D),T=fun i=>lx (mJ x++(x.aN.map oC).take i) (n+1):=⟨_,rfl⟩
 have hT0:T 0=[[.s kH,.ol (n+1) []],[.s x.bG,.ol (n+1+1) []],[.s [],.ol (n+1+1+1) (lx (aP x.aF) (n+1+1+1+1))],[.s (bZ x.bO).aG,.ol (n+1+1+1+dQ (bq (aP x.aF))) (lx (bZ x.bO).ah (n+1+1+1+dQ (bq (aP x.aF))+1))],[.s [],.ol (n+1+1+1+dQ (bq (aP x.aF))+dQ (bZ x.bO)) (lx (x.dh.map qy) (n+1+1+1+dQ (bq (aP x.aF))+dQ (bZ x.bO)+1))],[.s [],.ol (n+1+1+1+dQ (bq (aP x.aF))+dQ (bZ x.bO)+dQ (bq (x.dh.map qy))) (lx (aP (kE x)) (n+1+1+1+dQ (bq (aP x.aF))+dQ (bZ x.bO)+dQ (bq (x.dh.map qy))+1))],[.s [],.ol p (lx (kF x) (p+1))]]:=by
  rw[hT,hp];simp only[List.take_zero,List.append_nil,mJ,adj]
 have fP:∀i,(T i).length<=i+7:=fun i=>by
  rw[hT];simp only[gH,List.length_append];have:=List.length_take_le i (x.aN.map oC);simp[mJ];omega
 have hTs:∀i (hi:i<x.aN.length),T i++[[.s [],.ol (L i) [[.s x.aN[i].fName,.ol (L i+1) []],[.s [],.ol (L i+1+1) (lx (aP x.aN[i].aF) (L i+1+1+1))],[.s (fu x.aN[i].fBody).aG,.ol (L i+1+1+dQ (bq (aP x.aN[i].aF))) (lx (fu x.aN[i].fBody).ah (L i+1+1+dQ (bq (aP x.aN[i].aF))+1))]]]]=T (i+1):=fun i hi=>by
  have:=AB (base:=mJ x) (l:=x.aN.map oC) (i:=i) (by rw[List.length_map];exact hi) (n+1);rw[List.getElem_map,oC,dW,bY] at this;simp only[jK,ny,jJ,kX,kY,dW,bY,jZ] at this;rw[hT,hL];exact this
 have hTr:∀i,∀r∈T i,r.length=2:=fun i=>by rw[hT];exact kM
 have hTe:T x.aN.length=lx (oV x).ah (n+1):=by
  rw[hT];simp only
  rw[List.take_of_length_le (by simp)];rfl
 clear hT hL;refine(show Hold ?T->_ from fun tail=> ?main) ?tp
 case' main=>
  cases ha:x.gQ<;>cases hs:x.eH
  ·have hfl:kE x=[]:=by unfold kE;rw[ha];rfl
   have has:kF x=[]:=by unfold kF;rw[hs];rfl
   refine Bw (p) 1 (n) 5 (rs:=[.cell 2 64]) zmx func69 ntmps69 rfl rfl rfl rfl rfl ?_;simp -implicitDefEqProofs (disch:=omega) only[go_sem,ha,hs];refine W3 ?_;refine C1 (cO _ (n+1)) ?_;refine C1 (cO _ (n+1+1)) ?_;refine C1 (dY x.aF (by omega) (n+1+1+1)) ?_;refine C1 (lY x.bO (n+1+1+1+dQ (bq (aP x.aF))) hf1 (by omega)) ?_;refine C1 (vB x.dh (n+1+1+1+dQ (bq (aP x.aF))+dQ (bZ x.bO)) hf2 (by omega) (fun b hb=>by have:=qx hb;omega)) ?_;refine jY (dY [] (by simp) (n+1+1+1+dQ (bq (aP x.aF))+dQ (bZ x.bO)+dQ (bq (x.dh.map qy)))) (.cons (oq p _) .nil) ?_;refine W1 ?_;refine C1 (nR _ _) ?_;refine W3 ?_;refine lD n 5 2 (T 0) (.inl ?_) (hTr 0) ?_
   ·rw[hT0,hfl,has];rfl
   refine om (L 0) ?_;refine nP (st':=[.seed (L 0),.seed 1,.box [.d (.s x.bG),.d (.sl (x.aF.map encS)),.d (.i .i64 x.bO.aM),.d (.s x.bO.fName),.d (.sl (x.bO.fArgs.map ak.enc)),.d (.sl (x.dh.map bS.enc)),.d (.b x.gQ),.d (.b x.eH),.d (.i .i64 x.bI.aM),.d (.s x.bI.fName),.d (.sl (x.bI.fArgs.map ak.enc)),.d (.sl (x.aN.map bX.enc))],.box [.d (.s []),.bn []],.eu n 2 (T 0)]::S) [2,5,42,43,44] [.c (.ptr (0,3) 0),.c (.bB (0,4) (T 0)),.c (.d (.sl (x.aN.map bX.enc))),.c (.d (.i .i64 x.aN.length)),.c (.d (.i .i64 0))] ?_ ?_ ?_
   ·rfl
   ·rw[ha,hs];rfl
   ·exact tail.out
  ·have hfl:kE x=[]:=by unfold kE;rw[ha];rfl
   have has:kF x=[bZ x.bI]:=by unfold kF;rw[hs];rfl
   refine Bw (p) 1 (n) 5 (rs:=[.cell 2 64]) zmx func69 ntmps69 rfl rfl rfl rfl rfl ?_;simp -implicitDefEqProofs (disch:=omega) only[go_sem,ha,hs];refine W3 ?_;refine C1 (lY x.bI (p+1) (hf3 hs) (by omega)) ?_;refine W3 ?_;refine C1 (cO _ (n+1)) ?_;refine C1 (cO _ (n+1+1)) ?_;refine C1 (dY x.aF (by omega) (n+1+1+1)) ?_;refine C1 (lY x.bO (n+1+1+1+dQ (bq (aP x.aF))) hf1 (by omega)) ?_;refine C1 (vB x.dh (n+1+1+1+dQ (bq (aP x.aF))+dQ (bZ x.bO)) hf2 (by omega) (fun b hb=>by have:=qx hb;omega)) ?_;refine jY (dY [] (by simp) (n+1+1+1+dQ (bq (aP x.aF))+dQ (bZ x.bO)+dQ (bq (x.dh.map qy)))) (.cons (oq p _) .nil) ?_;refine W1 ?_;refine C1 (lq _) ?_;refine W3 ?_;refine lD n 5 2 (T 0) (.inl ?_) (hTr 0) ?_
   ·rw[hT0,hfl,has,jK,ny,jJ];rfl
   refine om (L 0) ?_;refine nP (st':=[.seed (L 0),.seed 1,.box [.d (.s x.bG),.d (.sl (x.aF.map encS)),.d (.i .i64 x.bO.aM),.d (.s x.bO.fName),.d (.sl (x.bO.fArgs.map ak.enc)),.d (.sl (x.dh.map bS.enc)),.d (.b x.gQ),.d (.b x.eH),.d (.i .i64 x.bI.aM),.d (.s x.bI.fName),.d (.sl (x.bI.fArgs.map ak.enc)),.d (.sl (x.aN.map bX.enc))],.box [.d (.s []),.bn []],.eu n 2 (T 0)]::S) [2,5,42,43,44] [.c (.ptr (0,3) 0),.c (.bB (0,4) (T 0)),.c (.d (.sl (x.aN.map bX.enc))),.c (.d (.i .i64 x.aN.length)),.c (.d (.i .i64 0))] ?_ ?_ ?_
   ·rfl
   ·rw[ha,hs];rfl
   ·exact tail.out
  ·have hfl:kE x=[nX]:=by unfold kE;rw[ha];rfl
   have has:kF x=[]:=by unfold kF;rw[hs];rfl
   refine Bw (p) 1 (n) 5 (rs:=[.cell 2 64]) zmx func69 ntmps69 rfl rfl rfl rfl rfl ?_;simp -implicitDefEqProofs (disch:=omega) only[go_sem,ha,hs];refine W3 ?_;refine C1 (cO _ (n+1)) ?_;refine C1 (cO _ (n+1+1)) ?_;refine C1 (dY x.aF (by omega) (n+1+1+1)) ?_;refine C1 (lY x.bO (n+1+1+1+dQ (bq (aP x.aF))) hf1 (by omega)) ?_;refine C1 (vB x.dh (n+1+1+1+dQ (bq (aP x.aF))+dQ (bZ x.bO)) hf2 (by omega) (fun b hb=>by have:=qx hb;omega)) ?_;refine jY (dY [nX] (by simp) (n+1+1+1+dQ (bq (aP x.aF))+dQ (bZ x.bO)+dQ (bq (x.dh.map qy)))) (.cons (XI p _) .nil) ?_;refine W1 ?_;refine C1 (nR _ _) ?_;refine W3 ?_;refine lD n 5 2 (T 0) (.inl ?_) (hTr 0) ?_
   ·rw[hT0,hfl,has];rfl
   refine om (L 0) ?_;refine nP (st':=[.seed (L 0),.seed 1,.box [.d (.s x.bG),.d (.sl (x.aF.map encS)),.d (.i .i64 x.bO.aM),.d (.s x.bO.fName),.d (.sl (x.bO.fArgs.map ak.enc)),.d (.sl (x.dh.map bS.enc)),.d (.b x.gQ),.d (.b x.eH),.d (.i .i64 x.bI.aM),.d (.s x.bI.fName),.d (.sl (x.bI.fArgs.map ak.enc)),.d (.sl (x.aN.map bX.enc))],.box [.d (.s []),.bn []],.eu n 2 (T 0)]::S) [2,5,42,43,44] [.c (.ptr (0,3) 0),.c (.bB (0,4) (T 0)),.c (.d (.sl (x.aN.map bX.enc))),.c (.d (.i .i64 x.aN.length)),.c (.d (.i .i64 0))] ?_ ?_ ?_
   ·rfl
   ·rw[ha,hs];rfl
   ·exact tail.out
  ·have hfl:kE x=[nX]:=by unfold kE;rw[ha];rfl
   have has:kF x=[bZ x.bI]:=by unfold kF;rw[hs];rfl
   refine Bw (p) 1 (n) 5 (rs:=[.cell 2 64]) zmx func69 ntmps69 rfl rfl rfl rfl rfl ?_;simp -implicitDefEqProofs (disch:=omega) only[go_sem,ha,hs];refine W3 ?_;refine C1 (lY x.bI (p+1) (hf3 hs) (by omega)) ?_;refine W3 ?_;refine C1 (cO _ (n+1)) ?_;refine C1 (cO _ (n+1+1)) ?_;refine C1 (dY x.aF (by omega) (n+1+1+1)) ?_;refine C1 (lY x.bO (n+1+1+1+dQ (bq (aP x.aF))) hf1 (by omega)) ?_;refine C1 (vB x.dh (n+1+1+1+dQ (bq (aP x.aF))+dQ (bZ x.bO)) hf2 (by omega) (fun b hb=>by have:=qx hb;omega)) ?_;refine jY (dY [nX] (by simp) (n+1+1+1+dQ (bq (aP x.aF))+dQ (bZ x.bO)+dQ (bq (x.dh.map qy)))) (.cons (XI p _) .nil) ?_;refine W1 ?_;refine C1 (lq _) ?_;refine W3 ?_;refine lD n 5 2 (T 0) (.inl ?_) (hTr 0) ?_
   ·rw[hT0,hfl,has,jK,ny,jJ];rfl
   refine om (L 0) ?_;refine nP (st':=[.seed (L 0),.seed 1,.box [.d (.s x.bG),.d (.sl (x.aF.map encS)),.d (.i .i64 x.bO.aM),.d (.s x.bO.fName),.d (.sl (x.bO.fArgs.map ak.enc)),.d (.sl (x.dh.map bS.enc)),.d (.b x.gQ),.d (.b x.eH),.d (.i .i64 x.bI.aM),.d (.s x.bI.fName),.d (.sl (x.bI.fArgs.map ak.enc)),.d (.sl (x.aN.map bX.enc))],.box [.d (.s []),.bn []],.eu n 2 (T 0)]::S) [2,5,42,43,44] [.c (.ptr (0,3) 0),.c (.bB (0,4) (T 0)),.c (.d (.sl (x.aN.map bX.enc))),.c (.d (.i .i64 x.aN.length)),.c (.d (.i .i64 0))] ?_ ?_ ?_
   ·rfl
   ·rw[ha,hs];rfl
   ·exact tail.out
 refine⟨?_⟩
 refine aR (ι:=Nat) zmx rfl [2,5,42,43,44] (fun i=>[.c (.ptr (0,3) 0),.c (.bB (0,4) (T i)),.c (.d (.sl (x.aN.map bX.enc))),.c (.d (.i .i64 x.aN.length)),.c (.d (.i .i64 i))])
  (fun i=>[.seed (L i),.seed 1,.box [.d (.s x.bG),.d (.sl (x.aF.map encS)),.d (.i .i64 x.bO.aM),.d (.s x.bO.fName),.d (.sl (x.bO.fArgs.map ak.enc)),.d (.sl (x.dh.map bS.enc)),.d (.b x.gQ),.d (.b x.eH),.d (.i .i64 x.bI.aM),.d (.s x.bI.fName),.d (.sl (x.bI.fArgs.map ak.enc)),.d (.sl (x.aN.map bX.enc))],.box [.d (.s []),.bn []],.eu n 2 (T i)]::S)
  (fun i=>i<=x.aN.length) (fun i=>x.aN.length-i) 0 rfl rfl (Nat.zero_le _) ?_
 intro i hi;have hl:=fP i;refine W1 ?_;refine S0 (fun hb h=>?_) fun hb h=>?_
 ·have hi':i<x.aN.length:=by omega
  have hm:=List.getElem_mem hi';have hcz:=AU hm;have hce:=bX.sum x.aN[i];rw[dB] at hce;have hst:=hTs i hi';refine W3 ?_;refine C1 (cO _ (L i+1)) ?_;refine C1 (dY x.aN[i].aF (by omega) (L i+1+1)) ?_;refine C1 (zV x.aN[i].fBody (L i+1+1+dQ (bq (aP x.aN[i].aF))) (Fw _ hm) (by omega)) ?_;refine W3 ?_;refine C1 (nR _ _) ?_;refine W3 ?_;rw[hst];refine kS (L (i+1)) 4 (by decide) (i+1) (by omega) rfl rfl ?_ rfl (by omega);simp[iR,gV,V.refs,C.refs,kr]
 ·have hi':i=x.aN.length:=by omega
  refine cK rfl (kg 0 4 _ _) ?_;refine W1 ?_;rw[hi',hTe]
theorem ajl(x:aT)(hv:eX x=true)(hsz:x.sz<=1048576)(ha:x.gQ=true)(hs:x.eH=true):aC prog 83 [x.v] (sI (oV x)).v:=fun S=>by
 have hdz:=aT.sum x;rw[dB] at hdz;obtain⟨hf1,hf2,hf3,Fw⟩:=nY hv;have hz:=He hv
 have hfl:kE x=[nX]:=by unfold kE;rw[ha];rfl
 have has:kF x=[bZ x.bI]:=by unfold kF;rw[hs];rfl
 obtain⟨T,hT⟩:∃T:Nat->List (List D),T=fun i=>(mJ x++(x.aN.map oC).take i).map aj.enc:=⟨_,rfl⟩
 have hT0:T 0=[[.s kH,.sl []],[.s x.bG,.sl []],[.s [],.sl ((aP x.aF).map aj.enc)],[.s (bZ x.bO).aG,.sl ((bZ x.bO).ah.map aj.enc)],[.s [],.sl ((x.dh.map qy).map aj.enc)],[.s [],.sl ((aP [nX]).map aj.enc)],[.s [],.sl [[.s (bZ x.bI).aG,.sl ((bZ x.bI).ah.map aj.enc)]]]]:=by
  rw[hT];simp only[List.take_zero,List.append_nil,mJ,hfl,has,List.map_cons,List.map_nil,fB,jE,aj.aQ (bZ x.bO),aj.aQ (bZ x.bI)]
 have fP:∀i,(T i).length<=i+7:=fun i=>by
  rw[hT];simp only[List.length_map,List.length_append];have:=List.length_take_le i (x.aN.map oC);simp[mJ];omega
 have hTs:∀i (hi:i<x.aN.length),T i++[[.s [],.sl [[.s x.aN[i].fName,.sl []],[.s [],.sl ((aP x.aN[i].aF).map aj.enc)],[.s (fu x.aN[i].fBody).aG,.sl ((fu x.aN[i].fBody).ah.map aj.enc)]]]]=T (i+1):=fun i hi=>by
  have:=ji (base:=mJ x) (l:=x.aN.map oC) (i:=i) (by rw[List.length_map];exact hi);rw[List.getElem_map,oC,dW,bY] at this;simp only[List.map_cons,List.map_nil,fB,jE,aj.aQ (fu x.aN[i].fBody)] at this;rw[hT];exact this
 have hTr:∀i,∀r∈T i,r.length=2:=fun i=>by rw[hT];exact gJ
 have hTe:T x.aN.length=(oV x).ah.map aj.enc:=by
  rw[hT];simp only
  rw[List.take_of_length_le (by simp)];rfl
 clear hT;refine zcx [.cell 2 64] func83 ntmps83 ?_;refine W1 ?_;refine aX (oQ x (by omega)) ?_;simp -implicitDefEqProofs (disch:=omega) only[go_sem,hv,ha,hs];refine W3 ?_;refine C1 (mG x.bI (by omega)) ?_;refine W3 ?_;refine C1 (nI _ (by simp) (by simp)) ?_;refine W3 ?_;refine C1 (bN _) ?_;refine C1 (bN _) ?_;refine C1 (dU x.aF (by omega)) ?_;refine C1 (mG x.bO (by omega)) ?_;refine C1 (wU x.dh (by omega) (fun b hb=>by have:=qx hb;omega)) ?_;refine C1 (dU [nX] (by simp)) ?_;have hE:=fun bP Ω=>jR (T 0) (hTr 0) (by have:=fP 0;omega) bP Ω;simp only[hT0] at hE;refine mQ [false] rfl (hE _ _) ?_;refine W1 ?_
 refine aR (ι:=Nat) zmx rfl [1,2,5,6] (fun i=>[.c (.ptr (0,0) 0),.c (.ptr (0,1) 0),.c (.ptr (0,6) 0),.c (.d (.i .i64 i))])
  (fun i=>[.box [.d (.s x.bG),.d (.sl (x.aF.map encS)),.d (.i .i64 x.bO.aM),.d (.s x.bO.fName),.d (.sl (x.bO.fArgs.map ak.enc)),.d (.sl (x.dh.map bS.enc)),.d (.b true),.d (.b true),.d (.i .i64 x.bI.aM),.d (.s x.bI.fName),.d (.sl (x.bI.fArgs.map ak.enc)),.d (.sl (x.aN.map bX.enc))],.box [.d (.s []),.bn []],.tok 1 [[.s nX]],.box [.d (.s []),.d (.sl [[.s (bZ x.bI).aG,.sl ((bZ x.bI).ah.map aj.enc)]])],.box [.d (.s []),.bB (0,5) (T 0)],.tok 2 (T i),.box [.d (.s []),.bB (0,5) (T i)]]::S)
  (fun i=>i<=x.aN.length) (fun i=>x.aN.length-i) 0 rfl (by simp only[hT0]<;>(try rfl)) (Nat.zero_le _) ?_
 intro i hi;have hl:=fP i;refine W1 ?_;refine S0 (fun hb h=>?_) fun hb h=>?_
 ·have hi':i<x.aN.length:=by omega
  have hm:=List.getElem_mem hi';have hcz:=AU hm;have hce:=bX.sum x.aN[i];rw[dB] at hce;have hst:=hTs i hi';refine W3 ?_;refine C1 (bN _) ?_;refine C1 (dU x.aN[i].aF (by omega)) ?_;refine C1 (uy x.aN[i].fBody (Fw _ hm) (by omega)) ?_;refine C1 (nI _ (by simp) (by simp)) ?_;refine W3 ?_;rw[hst];exact bL 7 (by decide) (i+1) (by omega) rfl rfl rfl rfl (by omega)
 ·have hi':i=x.aN.length:=by omega
  subst hi';rw[hTe];refine C1 (q8 true (oV x) (by omega)) ?_;rfl
theorem ajm(x:aT)(hv:eX x=true)(hsz:x.sz<=1048576)(ha:x.gQ=true)(hs:x.eH=false):aC prog 83 [x.v] (sI (oV x)).v:=fun S=>by
 have hdz:=aT.sum x;rw[dB] at hdz;obtain⟨hf1,hf2,hf3,Fw⟩:=nY hv;have hz:=He hv
 have hfl:kE x=[nX]:=by unfold kE;rw[ha];rfl
 have has:kF x=[]:=by unfold kF;rw[hs];rfl
 obtain⟨T,hT⟩:∃T:Nat->List (List D),T=fun i=>(mJ x++(x.aN.map oC).take i).map aj.enc:=⟨_,rfl⟩
 have hT0:T 0=[[.s kH,.sl []],[.s x.bG,.sl []],[.s [],.sl ((aP x.aF).map aj.enc)],[.s (bZ x.bO).aG,.sl ((bZ x.bO).ah.map aj.enc)],[.s [],.sl ((x.dh.map qy).map aj.enc)],[.s [],.sl ((aP [nX]).map aj.enc)],[.s [],.sl []]]:=by
  rw[hT];simp only[List.take_zero,List.append_nil,mJ,hfl,has,List.map_cons,List.map_nil,fB,jE,aj.aQ (bZ x.bO),aj.aQ (bZ x.bI)]
 have fP:∀i,(T i).length<=i+7:=fun i=>by
  rw[hT];simp only[List.length_map,List.length_append];have:=List.length_take_le i (x.aN.map oC);simp[mJ];omega
 have hTs:∀i (hi:i<x.aN.length),T i++[[.s [],.sl [[.s x.aN[i].fName,.sl []],[.s [],.sl ((aP x.aN[i].aF).map aj.enc)],[.s (fu x.aN[i].fBody).aG,.sl ((fu x.aN[i].fBody).ah.map aj.enc)]]]]=T (i+1):=fun i hi=>by
  have:=ji (base:=mJ x) (l:=x.aN.map oC) (i:=i) (by rw[List.length_map];exact hi);rw[List.getElem_map,oC,dW,bY] at this;simp only[List.map_cons,List.map_nil,fB,jE,aj.aQ (fu x.aN[i].fBody)] at this;rw[hT];exact this
 have hTr:∀i,∀r∈T i,r.length=2:=fun i=>by rw[hT];exact gJ
 have hTe:T x.aN.length=(oV x).ah.map aj.enc:=by
  rw[hT];simp only
  rw[List.take_of_length_le (by simp)];rfl
 clear hT;refine zcx [.cell 2 64] func83 ntmps83 ?_;refine W1 ?_;refine aX (oQ x (by omega)) ?_;simp -implicitDefEqProofs (disch:=omega) only[go_sem,hv,ha,hs];refine W3 ?_;refine C1 (bN _) ?_;refine C1 (bN _) ?_;refine C1 (dU x.aF (by omega)) ?_;refine C1 (mG x.bO (by omega)) ?_;refine C1 (wU x.dh (by omega) (fun b hb=>by have:=qx hb;omega)) ?_;refine C1 (dU [nX] (by simp)) ?_;have hE:=fun bP Ω=>jR (T 0) (hTr 0) (by have:=fP 0;omega) bP Ω;simp only[hT0] at hE;refine mQ [false] rfl (hE _ _) ?_;refine W1 ?_
 refine aR (ι:=Nat) zmx rfl [1,2,5,6] (fun i=>[.c (.ptr (0,0) 0),.c (.ptr (0,1) 0),.c (.ptr (0,6) 0),.c (.d (.i .i64 i))])
  (fun i=>[.box [.d (.s x.bG),.d (.sl (x.aF.map encS)),.d (.i .i64 x.bO.aM),.d (.s x.bO.fName),.d (.sl (x.bO.fArgs.map ak.enc)),.d (.sl (x.dh.map bS.enc)),.d (.b true),.d (.b false),.d (.i .i64 x.bI.aM),.d (.s x.bI.fName),.d (.sl (x.bI.fArgs.map ak.enc)),.d (.sl (x.aN.map bX.enc))],.box [.d (.s []),.bn []],.tok 1 [[.s nX]],.box [.d (.s []),.bn []],.box [.d (.s []),.bB (0,5) (T 0)],.tok 2 (T i),.box [.d (.s []),.bB (0,5) (T i)]]::S)
  (fun i=>i<=x.aN.length) (fun i=>x.aN.length-i) 0 rfl (by simp only[hT0]<;>(try rfl)) (Nat.zero_le _) ?_
 intro i hi;have hl:=fP i;refine W1 ?_;refine S0 (fun hb h=>?_) fun hb h=>?_
 ·have hi':i<x.aN.length:=by omega
  have hm:=List.getElem_mem hi';have hcz:=AU hm;have hce:=bX.sum x.aN[i];rw[dB] at hce;have hst:=hTs i hi';refine W3 ?_;refine C1 (bN _) ?_;refine C1 (dU x.aN[i].aF (by omega)) ?_;refine C1 (uy x.aN[i].fBody (Fw _ hm) (by omega)) ?_;refine C1 (nI _ (by simp) (by simp)) ?_;refine W3 ?_;rw[hst];exact bL 7 (by decide) (i+1) (by omega) rfl rfl rfl rfl (by omega)
 ·have hi':i=x.aN.length:=by omega
  subst hi';rw[hTe];refine C1 (q8 true (oV x) (by omega)) ?_;rfl
theorem ajn(x:aT)(hv:eX x=true)(hsz:x.sz<=1048576)(ha:x.gQ=false)(hs:x.eH=true):aC prog 83 [x.v] (sI (oV x)).v:=fun S=>by
 have hdz:=aT.sum x;rw[dB] at hdz;obtain⟨hf1,hf2,hf3,Fw⟩:=nY hv;have hz:=He hv
 have hfl:kE x=[]:=by unfold kE;rw[ha];rfl
 have has:kF x=[bZ x.bI]:=by unfold kF;rw[hs];rfl
 obtain⟨T,hT⟩:∃T:Nat->List (List D),T=fun i=>(mJ x++(x.aN.map oC).take i).map aj.enc:=⟨_,rfl⟩
 have hT0:T 0=[[.s kH,.sl []],[.s x.bG,.sl []],[.s [],.sl ((aP x.aF).map aj.enc)],[.s (bZ x.bO).aG,.sl ((bZ x.bO).ah.map aj.enc)],[.s [],.sl ((x.dh.map qy).map aj.enc)],[.s [],.sl ((aP []).map aj.enc)],[.s [],.sl [[.s (bZ x.bI).aG,.sl ((bZ x.bI).ah.map aj.enc)]]]]:=by
  rw[hT];simp only[List.take_zero,List.append_nil,mJ,hfl,has,List.map_cons,List.map_nil,fB,jE,aj.aQ (bZ x.bO),aj.aQ (bZ x.bI)]
 have fP:∀i,(T i).length<=i+7:=fun i=>by
  rw[hT];simp only[List.length_map,List.length_append];have:=List.length_take_le i (x.aN.map oC);simp[mJ];omega
 have hTs:∀i (hi:i<x.aN.length),T i++[[.s [],.sl [[.s x.aN[i].fName,.sl []],[.s [],.sl ((aP x.aN[i].aF).map aj.enc)],[.s (fu x.aN[i].fBody).aG,.sl ((fu x.aN[i].fBody).ah.map aj.enc)]]]]=T (i+1):=fun i hi=>by
  have:=ji (base:=mJ x) (l:=x.aN.map oC) (i:=i) (by rw[List.length_map];exact hi);rw[List.getElem_map,oC,dW,bY] at this;simp only[List.map_cons,List.map_nil,fB,jE,aj.aQ (fu x.aN[i].fBody)] at this;rw[hT];exact this
 have hTr:∀i,∀r∈T i,r.length=2:=fun i=>by rw[hT];exact gJ
 have hTe:T x.aN.length=(oV x).ah.map aj.enc:=by
  rw[hT];simp only
  rw[List.take_of_length_le (by simp)];rfl
 clear hT;refine zcx [.cell 2 64] func83 ntmps83 ?_;refine W1 ?_;refine aX (oQ x (by omega)) ?_;simp -implicitDefEqProofs (disch:=omega) only[go_sem,hv,ha,hs];refine W3 ?_;refine C1 (mG x.bI (by omega)) ?_;refine W3 ?_;refine C1 (nI _ (by simp) (by simp)) ?_;refine W3 ?_;refine C1 (bN _) ?_;refine C1 (bN _) ?_;refine C1 (dU x.aF (by omega)) ?_;refine C1 (mG x.bO (by omega)) ?_;refine C1 (wU x.dh (by omega) (fun b hb=>by have:=qx hb;omega)) ?_;refine C1 (dU [] (by simp)) ?_;have hE:=fun bP Ω=>jR (T 0) (hTr 0) (by have:=fP 0;omega) bP Ω;simp only[hT0] at hE;refine mQ [false] rfl (hE _ _) ?_;refine W1 ?_
 refine aR (ι:=Nat) zmx rfl [1,2,5,6] (fun i=>[.c (.ptr (0,0) 0),.c (.ptr (0,1) 0),.c (.ptr (0,5) 0),.c (.d (.i .i64 i))])
  (fun i=>[.box [.d (.s x.bG),.d (.sl (x.aF.map encS)),.d (.i .i64 x.bO.aM),.d (.s x.bO.fName),.d (.sl (x.bO.fArgs.map ak.enc)),.d (.sl (x.dh.map bS.enc)),.d (.b false),.d (.b true),.d (.i .i64 x.bI.aM),.d (.s x.bI.fName),.d (.sl (x.bI.fArgs.map ak.enc)),.d (.sl (x.aN.map bX.enc))],.box [.d (.s []),.bn []],.box [.d (.s []),.d (.sl [[.s (bZ x.bI).aG,.sl ((bZ x.bI).ah.map aj.enc)]])],.box [.d (.s []),.bB (0,4) (T 0)],.tok 2 (T i),.box [.d (.s []),.bB (0,4) (T i)]]::S)
  (fun i=>i<=x.aN.length) (fun i=>x.aN.length-i) 0 rfl (by simp only[hT0]<;>(try rfl)) (Nat.zero_le _) ?_
 intro i hi;have hl:=fP i;refine W1 ?_;refine S0 (fun hb h=>?_) fun hb h=>?_
 ·have hi':i<x.aN.length:=by omega
  have hm:=List.getElem_mem hi';have hcz:=AU hm;have hce:=bX.sum x.aN[i];rw[dB] at hce;have hst:=hTs i hi';refine W3 ?_;refine C1 (bN _) ?_;refine C1 (dU x.aN[i].aF (by omega)) ?_;refine C1 (uy x.aN[i].fBody (Fw _ hm) (by omega)) ?_;refine C1 (nI _ (by simp) (by simp)) ?_;refine W3 ?_;rw[hst];exact bL 6 (by decide) (i+1) (by omega) rfl rfl rfl rfl (by omega)
 ·have hi':i=x.aN.length:=by omega
  subst hi';rw[hTe];refine C1 (q8 true (oV x) (by omega)) ?_;rfl
theorem ajo(x:aT)(hv:eX x=true)(hsz:x.sz<=1048576)(ha:x.gQ=false)(hs:x.eH=false):aC prog 83 [x.v] (sI (oV x)).v:=fun S=>by
 have hdz:=aT.sum x;rw[dB] at hdz;obtain⟨hf1,hf2,hf3,Fw⟩:=nY hv;have hz:=He hv
 have hfl:kE x=[]:=by unfold kE;rw[ha];rfl
 have has:kF x=[]:=by unfold kF;rw[hs];rfl
 obtain⟨T,hT⟩:∃T:Nat->List (List D),T=fun i=>(mJ x++(x.aN.map oC).take i).map aj.enc:=⟨_,rfl⟩
 have hT0:T 0=[[.s kH,.sl []],[.s x.bG,.sl []],[.s [],.sl ((aP x.aF).map aj.enc)],[.s (bZ x.bO).aG,.sl ((bZ x.bO).ah.map aj.enc)],[.s [],.sl ((x.dh.map qy).map aj.enc)],[.s [],.sl ((aP []).map aj.enc)],[.s [],.sl []]]:=by
  rw[hT];simp only[List.take_zero,List.append_nil,mJ,hfl,has,List.map_cons,List.map_nil,fB,jE,aj.aQ (bZ x.bO),aj.aQ (bZ x.bI)]
 have fP:∀i,(T i).length<=i+7:=fun i=>by
  rw[hT];simp only[List.length_map,List.length_append];have:=List.length_take_le i (x.aN.map oC);simp[mJ];omega
 have hTs:∀i (hi:i<x.aN.length),T i++[[.s [],.sl [[.s x.aN[i].fName,.sl []],[.s [],.sl ((aP x.aN[i].aF).map aj.enc)],[.s (fu x.aN[i].fBody).aG,.sl ((fu x.aN[i].fBody).ah.map aj.enc)]]]]=T (i+1):=fun i hi=>by
  have:=ji (base:=mJ x) (l:=x.aN.map oC) (i:=i) (by rw[List.length_map];exact hi);rw[List.getElem_map,oC,dW,bY] at this;simp only[List.map_cons,List.map_nil,fB,jE,aj.aQ (fu x.aN[i].fBody)] at this;rw[hT];exact this
 have hTr:∀i,∀r∈T i,r.length=2:=fun i=>by rw[hT];exact gJ
 have hTe:T x.aN.length=(oV x).ah.map aj.enc:=by
  rw[hT];simp only
  rw[List.take_of_length_le (by simp)];rfl
 clear hT;refine zcx [.cell 2 64] func83 ntmps83 ?_;refine W1 ?_;refine aX (oQ x (by omega)) ?_;simp -implicitDefEqProofs (disch:=omega) only[go_sem,hv,ha,hs];refine W3 ?_;refine C1 (bN _) ?_;refine C1 (bN _) ?_;refine C1 (dU x.aF (by omega)) ?_;refine C1 (mG x.bO (by omega)) ?_;refine C1 (wU x.dh (by omega) (fun b hb=>by have:=qx hb;omega)) ?_;refine C1 (dU [] (by simp)) ?_;have hE:=fun bP Ω=>jR (T 0) (hTr 0) (by have:=fP 0;omega) bP Ω;simp only[hT0] at hE;refine mQ [false] rfl (hE _ _) ?_;refine W1 ?_
 refine aR (ι:=Nat) zmx rfl [1,2,5,6] (fun i=>[.c (.ptr (0,0) 0),.c (.ptr (0,1) 0),.c (.ptr (0,5) 0),.c (.d (.i .i64 i))])
  (fun i=>[.box [.d (.s x.bG),.d (.sl (x.aF.map encS)),.d (.i .i64 x.bO.aM),.d (.s x.bO.fName),.d (.sl (x.bO.fArgs.map ak.enc)),.d (.sl (x.dh.map bS.enc)),.d (.b false),.d (.b false),.d (.i .i64 x.bI.aM),.d (.s x.bI.fName),.d (.sl (x.bI.fArgs.map ak.enc)),.d (.sl (x.aN.map bX.enc))],.box [.d (.s []),.bn []],.box [.d (.s []),.bn []],.box [.d (.s []),.bB (0,4) (T 0)],.tok 2 (T i),.box [.d (.s []),.bB (0,4) (T i)]]::S)
  (fun i=>i<=x.aN.length) (fun i=>x.aN.length-i) 0 rfl (by simp only[hT0]<;>(try rfl)) (Nat.zero_le _) ?_
 intro i hi;have hl:=fP i;refine W1 ?_;refine S0 (fun hb h=>?_) fun hb h=>?_
 ·have hi':i<x.aN.length:=by omega
  have hm:=List.getElem_mem hi';have hcz:=AU hm;have hce:=bX.sum x.aN[i];rw[dB] at hce;have hst:=hTs i hi';refine W3 ?_;refine C1 (bN _) ?_;refine C1 (dU x.aN[i].aF (by omega)) ?_;refine C1 (uy x.aN[i].fBody (Fw _ hm) (by omega)) ?_;refine C1 (nI _ (by simp) (by simp)) ?_;refine W3 ?_;rw[hst];exact bL 6 (by decide) (i+1) (by omega) rfl rfl rfl rfl (by omega)
 ·have hi':i=x.aN.length:=by omega
  subst hi';rw[hTe];refine C1 (q8 true (oV x) (by omega)) ?_;rfl
theorem NC(x:aT)(hsz:x.sz<=1048576):aC prog 83 [x.v] (AX x).v:=by
 unfold AX
 cases hv:eX x with
 |false=>
  rw[qM];refine aC.less (fun S=> ?_) (AJ [] []);refine zcx [.cell 2 64] func83 ntmps83 ?_;refine W1 ?_;refine aX (oQ x (by omega)) ?_;simp -implicitDefEqProofs (disch:=omega) only[go_sem,hv]
 |true=>
  rw[qM]
  cases ha:x.gQ with
  |true=>
   cases hs:x.eH with
   |true=>exact ajl x hv hsz ha hs
   |false=>exact ajm x hv hsz ha hs
  |false=>
   cases hs:x.eH with
   |true=>exact ajn x hv hsz ha hs
   |false=>exact ajo x hv hsz ha hs
end Go.Ab