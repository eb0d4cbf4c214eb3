/-
  SEVERAL TEXTS IN ONE (merged by program): contracts and models, each with its own heading.
-/
import Derived.Test.YtcfhnaohbaplhaaGreatDoorPartTpbD
set_option linter.unusedSimpArgs false
set_option linter.unusedVariables false
set_option maxRecDepth 4000
namespace Go.Proofs.YtcfhnaohbaplhaaGreatDoor
open Go Go.Ab
set_option maxHeartbeats 8000000 in
theorem Pv:∀n:Nat,∀x:au,SizeOf.sizeOf x<n→x.sz≤4194304→aD Tryz.prog 196 [x.v] (.c (.d (.b (gW x)))):=by
 intro n
 induction n with
 |zero=>intro x h;omega
 |succ n ih=>
  intro x hn hsz S
  have hb0:=au.bounds hsz
  have iX:=au.fE x
  have rZ:=au.nD x
  have he:=sW x
  have hv0:=Kz
  have hop:x.fName∈ops→validName x.fName=false:=Nh
  refine(show(qA x→ ?T)→_ from fun tail=> ?main) ?tp
  case' main=>
   rcases GU x.aV with hk|hk|hk|hk|hk|hk|hk|hk|hk|hk|hk|hk|hk
   ·have h1:gW x=false:=by rw[he,aC (fun h=>by have:=h.1;omega)];rfl
    refine aB (rs:=[.tmp 2]) Tryz.checked.mixed Tryz.func196 Tryz.ntmps196 rfl rfl rfl rfl rfl ?_
    refine W1 ?_
    refine C1 (J3 _) ?_
    refine C1 (zI _ _ _) ?_
    refine S0 (fun hb h=>?_) fun hb h=>?_
    ·rw[h1]
    ·omega
   all_goals
    have hf0:¬qA x→V.c (.d (.b false))=V.c (.d (.b (gW x))):=fun h=>ay (by rw[he,aC h];rfl)
    refine aB (rs:=[.tmp 2]) Tryz.checked.mixed Tryz.func196 Tryz.ntmps196 rfl rfl rfl rfl rfl ?_
    simp -implicitDefEqProofs (disch:=omega) only[go_sem,hk]
    refine bN (J3 _) ?_
    simp -implicitDefEqProofs (disch:=omega) only[go_sem,hk,SV,SX,SY,S9,Ta,Tc,or_false,or_true,true_or,false_or]
    refine bN (zI _ _ _) ?_
    simp -implicitDefEqProofs (disch:=omega) only[go_sem,hk]
    repeat' (first
     |with_reducible refine eY (fun hb=> ?_) (fun hb=> ?_)<;>have h:=hb<;>(try simp only[wf_preprocess] at h)<;>simp -implicitDefEqProofs (disch:=omega) only[go_sem,hb,hk]<;>refine W3 ?_
     |((with_reducible show dX _ _ 159 _ _ _ _);refine bN (fU x.fName (by omega)) ?_;simp -implicitDefEqProofs (disch:=omega) only[go_sem,hk])
     |((with_reducible show dX _ _ 159 _ _ _ _);refine bN (fU x.bJ (by omega)) ?_;simp -implicitDefEqProofs (disch:=omega) only[go_sem,hk])
     |((with_reducible show dX _ _ 282 _ _ _ _);refine bN (Td x.fName) ?_;simp -implicitDefEqProofs (disch:=omega) only[go_sem,hk])
     |((with_reducible show dX _ _ 284 _ _ _ _);refine bN (GX x.fType) ?_;simp -implicitDefEqProofs (disch:=omega) only[go_sem,hk])
     |((with_reducible show dX _ _ 283 _ _ _ _);refine bN (sH x.fType (by omega)) ?_;simp -implicitDefEqProofs (disch:=omega) only[go_sem,hk])
     |((with_reducible show dX _ _ 243 _ _ _ _);refine bN (zI x.fN _ _) ?_;simp -implicitDefEqProofs (disch:=omega) only[go_sem,hk])
     |(refine hf0 fun hF=> ?_;simp only[qA,hk,or_false,or_true,true_or,false_or,and_true,true_and,if_true,if_false,↓reduceIte,Int.reduceEq,Int.reduceLT,Int.reduceLE] at hF;grind [iO,iK,bq,aC]))
   all_goals
    have hF:qA x:=by simp only[qA,hk,or_false,or_true,true_or,false_or,and_true,true_and,if_true,if_false,↓reduceIte,Int.reduceEq,Int.reduceLT,Int.reduceLE];grind [iO,iK,bq,aC]
    refine oD (st':=[.box (x.enc.map .d)]::S) [1,9] [.c (.ptr (0,0) 0),.c (.d (.i .i64 0))] rfl (by simp -implicitDefEqProofs (disch:=omega) only[go_sem,hk]) ?_
    exact tail hF
  intro hF
  rw[bq hF,Bool.true_and] at he
  clear hF hop hv0
  refine aR (ι:=Nat) Tryz.checked.mixed rfl [1,9] (fun i=>[.c (.ptr (0,0) 0),.c (.d (.i .i64 i))]) (fun _=>[.box (x.enc.map .d)]::S)
   (fun i=>i≤x.fArgs.length∧kX (x.fArgs.drop i)=kX x.fArgs) (fun i=>x.fArgs.length-i) 0 rfl ?_ ⟨Nat.zero_le _,rfl⟩ ?_
  ·exact Z1
  rintro i ⟨p1,p2⟩
  refine W1 ?_
  refine S0 (fun hb h=>?_) fun hb h=>?_
  ·have hi:i<x.fArgs.length:=by omega
   have hs:=List.sizeOf_lt_of_mem (List.getElem_mem hi)
   rw[Ng hi] at p2
   refine W3 ?_
   refine C2 (ih x.fArgs[i] (by omega) (au.arg_b hi hsz)) ?_
   refine S0 (fun hb h=>?_) fun hb h=>?_
   ·exact ay (by rw[he,←p2,h];rfl)
   ·exact bF (i+1) (by omega) rfl rfl ⟨by omega,by rw[←p2,h];rfl⟩
  rw[List.drop_of_length_le (by omega)] at p2
  have q:kX x.fArgs=true:=p2.symm
  clear p2 p1
  refine aR (ι:=Nat) Tryz.checked.mixed rfl [1,10] (fun i=>[.c (.ptr (0,0) 0),.c (.d (.i .i64 i))]) (fun _=>[.box (x.enc.map .d)]::S)
   (fun i=>i≤x.aW.length∧nJ (x.aW.drop i)=nJ x.aW) (fun i=>x.aW.length-i) 0 rfl ?_ ⟨Nat.zero_le _,rfl⟩ ?_
  ·exact Z1
  rintro i ⟨p1,p2⟩
  refine W1 ?_
  refine S0 (fun hb h=>?_) fun hb h=>?_
  ·have hi:i<x.aW.length:=by omega
   have hs:=List.sizeOf_lt_of_mem (List.getElem_mem hi)
   have hs':=aX.mI x.aW[i]
   have hab:=aX.bounds (au.Lb hi hsz)
   rw[O7 hi] at p2
   have no:uz x.aW[i]=false→V.c (.d (.b false))=V.c (.d (.b (gW x))):=fun h=>ay (by rw[he,←p2,h];simp)
   refine W3 ?_
   refine C2 (fU x.aW[i].dx (by omega)) ?_
   refine S0 (fun hb h=>?_) fun hb h=>?_
   ·exact no (by rw[oC,h];rfl)
   have k1:=h
   refine W3 ?_
   refine C2 (Ga x.aW[i].aF (by omega) hab.2.2.1) ?_
   refine S0 (fun hb h=>?_) fun hb h=>?_
   ·exact no (by rw[oC];unfold gQ;rw[h];simp)
   have k2:=h
   refine W3 ?_
   refine C2 (mK x.aW[i].aF (by omega)) ?_
   refine S0 (fun hb h=>?_) fun hb h=>?_
   ·exact no (by rw[oC];unfold gQ;rw[aC h];simp)
   have k3:=h
   refine W3 ?_
   refine C2 (ih x.aW[i].fBody (by omega) hab.2.2.2) ?_
   refine S0 (fun hb h=>?_) fun hb h=>?_
   ·exact no (by rw[oC,h];simp)
   ·exact bX 1 (by decide) (i+1) (by omega) rfl rfl rfl rfl ⟨by omega,by rw[←p2,oC,k1,h];unfold gQ;rw[k2,bq k3];rfl⟩
  ·rw[List.drop_of_length_le (by omega)] at p2
   exact ay (by rw[he,q,←p2];rfl)
theorem EM(x:au)(hsz:x.sz≤4194304):aD Tryz.prog 109 [x.v] (.c (.d (.b (om x)))):=fun S=>by
 have hs:=XW (l:=300) (c:=x.cnt) (by omega)
 refine aB (rs:=[.tmp 2]) Tryz.checked.mixed Tryz.func109 Tryz.ntmps109 rfl rfl rfl rfl rfl ?_
 refine W1 ?_
 refine C2 (D9 _ x (Nat.lt_succ_self _) hsz 300 (by omega) (by omega)) ?_
 rw[hs]
 refine S0 (fun hb h=>?_) fun hb h=>?_
 ·refine C2 (Pv _ x (Nat.lt_succ_self _) hsz) ?_
  exact ay (by unfold om;rw[bq (by omega)];rfl)
 ·exact ay (by unfold om;rw[aC (by omega)];rfl)
end Go.Proofs.YtcfhnaohbaplhaaGreatDoor
namespace Go.Ab
theorem NG{x:au}(h:om x=true):gW x=true:=by rw[om,Bool.and_eq_true] at h;exact h.2
end Go.Ab
namespace Go.Proofs.YtcfhnaohbaplhaaGreatDoor
open Go Go.Ab
end Go.Proofs.YtcfhnaohbaplhaaGreatDoor
namespace Go.Ab
theorem aO.bounds{x:aO}(h:x.sz≤4194304):x.fName.length≤4194304∧x.aF.length≤4194304∧x.aG.length≤4194304∧∀s∈x.aF,s.length≤4194304:=by
 simp only[aO.sz,aO.aH,bH,bf,D.sz,List.length_map] at h
 refine⟨by omega,by omega,by omega,fun s hs=> ?_⟩
 have:=nZ hs
 omega
theorem aO.Lc{x:aO}{i:Nat}(hi:i<x.aG.length)(h:x.sz≤4194304):x.aG[i].sz≤4194304:=by
 have hx:x.aG[i].sz≤aI (x.aG.map aP.enc):=bD (List.mem_map_of_mem (List.getElem_mem hi))
 simp only[aO.sz,aO.aH,bH,bf,D.sz,List.length_map] at h
 omega
theorem aP.bounds{x:aP}(h:x.sz≤4194304):x.fName.length≤4194304∧x.eP.length≤4194304∧∀t∈x.eP,t.sz≤4194304:=by
 simp only[aP.sz,aP.aH,bH,bf,D.sz,List.length_map] at h
 refine⟨by omega,by omega,fun t ht=> ?_⟩
 have hx:t.sz≤aI (x.eP.map ah.enc):=bD (List.mem_map_of_mem ht)
 omega
noncomputable def mG(vars:List (List UInt8))(c:aP):Bool:=dec (c.eP.length≤4)&&jN vars c.eP
noncomputable def jP(d:aO):List (List UInt8):=d.aG.map aP.fName
noncomputable def eG(d:aO):Bool:=
 validName d.fName&&(dec (d.aF.length≤3)&&(gQ d.aF&&(dec (1≤d.aG.length)&&(dec (d.aG.length≤5)&&(d.aG.all (mG d.aF)&&gQ (jP d))))))
end Go.Ab
namespace Go.Proofs.YtcfhnaohbaplhaaGreatDoor
open Go Go.Ab
theorem yC(d:aO)(hsz:d.sz≤4194304):aD Tryz.prog 219 [d.v] (.c (.d (.b (eG d)))):=fun S=>by
 have hb0:=aO.bounds hsz
 have bad:∀i,∀hi:i<d.aG.length,mG d.aF d.aG[i]=false→eG d=false:=fun i hi h=>by
  have:d.aG.all (mG d.aF)=false:=Bool.eq_false_iff.2 fun hx=>by
   rw[List.all_eq_true.1 hx _ (List.getElem_mem hi)] at h;cases h
  unfold eG
  rw[this];simp
 refine aB (rs:=[.tmp 2]) Tryz.checked.mixed Tryz.func219 Tryz.ntmps219 rfl rfl rfl rfl rfl ?_
 refine W1 ?_
 refine W3 ?_
 refine l9 3 1 [] rfl (by simp) ?_
 refine aR (ι:=Nat×List (List UInt8)) Tryz.checked.mixed rfl [1,3,4] (fun y=>[.c (.ptr (0,0) 0),.c (.bI (0,1) (y.2.map encS)),.c (.d (.i .i64 y.1))]) (fun y=>[.box (d.enc.map .d),.tok 1 (y.2.map encS)]::S)
  (fun y=>y.1≤d.aG.length∧y.2=(jP d).take y.1∧∀j,∀hj:j<d.aG.length,j<y.1→mG d.aF d.aG[j]=true) (fun y=>d.aG.length-y.1) (0,[]) rfl ?_ ⟨Nat.zero_le _,rfl,fun j _ h=>by simp only at h;omega⟩ ?_
 ·exact Z1
 rintro⟨i,names⟩ ⟨p1,p2,p3⟩
 simp only at p1 p2 p3
 have pl:names.length≤d.aG.length:=by rw[p2];simp[jP];omega
 refine W1 ?_
 refine S0 (fun hb h=>?_) fun hb h=>?_
 ·have hi:i<d.aG.length:=by omega
  have hc:=aP.bounds (aO.Lc hi hsz)
  refine W3 ?_
  refine S0 (fun hb h=>?_) fun hb h=>?_
  ·rw[bad i hi (by unfold mG;rw[aC (by omega)];rfl)]
  have h1:=h
  refine W3 ?_
  refine C2 (JK d.aG[i].eP d.aF (by omega) hc.2.2 (by omega)) ?_
  refine S0 (fun hb h=>?_) fun hb h=>?_
  ·rw[bad i hi (by unfold mG;rw[h];simp)]
  have h2:=h
  refine W3 ?_
  rw[show List.map encS names++[[D.s d.aG[i].fName]]=List.map encS (names++[d.aG[i].fName]) by simp[encS]]
  exact bF (i+1,names++[d.aG[i].fName]) (by simp only;omega) rfl rfl ⟨by simp only;omega,by simp only;rw[p2,gI (by simpa [jP] using hi)];simp[jP],fun j hj hji=>by
   simp only at hji
   by_cases e:j=i
   ·subst e;unfold mG;rw[h2,bq (by omega)];rfl
   ·exact p3 j hj (by omega)⟩
 have hi:i=d.aG.length:=by omega
 have hn:names=jP d:=by rw[p2,List.take_of_length_le (by simp[jP];omega)]
 have hall:d.aG.all (mG d.aF)=true:=List.all_eq_true.2 fun c hc=>by
  obtain⟨j,hj,e⟩:=List.getElem_of_mem hc
  rw[←e];exact p3 j hj (by omega)
 have hnl:∀s∈names,s.length≤4194304:=fun s hs=>by
  rw[hn] at hs
  obtain⟨c,hc,e⟩:=List.mem_map.1 hs
  obtain⟨j,hj,e'⟩:=List.getElem_of_mem hc
  rw[←e,←e'];exact(aP.bounds (aO.Lc hj hsz)).1
 have hlen:names.length=d.aG.length:=by rw[hn];simp[jP]
 refine C2 (fU d.fName (by omega)) ?_
 refine S0 (fun hb h=>?_) fun hb h=>?_
 ·have h1:=h
  refine C2 (jX d.aF 3 (by omega) hb0.2.2.2) ?_
  refine S0 (fun hb h=>?_) fun hb h=>?_
  ·have h2:=h
   refine S0 (fun hb h=>?_) fun hb h=>?_
   ·have h3:=h
    refine C2 (jX names 5 (by omega) hnl) ?_
    refine ay ?_
    rw[Bool.and_eq_true] at h2
    have h4:=iO h2.1
    unfold eG
    rw[h1,h2.2,hall,←hn,bq (show d.aF.length≤3 by omega),bq (show 1≤d.aG.length by omega),hlen]
    simp only[Bool.true_and]
    congr 1
    exact gP ⟨fun h=>by omega,fun h=>by omega⟩
   ·refine ay ?_
    unfold eG
    rw[aC (show ¬1≤d.aG.length by omega)];simp
  ·refine ay ?_
   unfold eG
   have h2:(dec (d.aF.length≤3)&&gQ d.aF)=false:=by
    rw[←h];congr 1;exact gP ⟨fun h=>by omega,fun h=>by omega⟩
   rw[←Bool.and_assoc (dec (d.aF.length≤3)),h2];simp
 ·exact ay (by unfold eG;rw[h];rfl)
theorem EN(d:aO)(hsz:d.sz≤4194304):aD Tryz.prog 173 [d.v] (.c (.d (.b (eG d)))):=fun S=>by
 have hb0:=aO.bounds hsz
 have bad:∀i,∀hi:i<d.aG.length,mG d.aF d.aG[i]=false→eG d=false:=fun i hi h=>by
  have:d.aG.all (mG d.aF)=false:=Bool.eq_false_iff.2 fun hx=>by
   rw[List.all_eq_true.1 hx _ (List.getElem_mem hi)] at h;cases h
  unfold eG
  rw[this];simp
 refine aB (rs:=[.tmp 2]) Tryz.checked.mixed Tryz.func173 Tryz.ntmps173 rfl rfl rfl rfl rfl ?_
 refine W1 ?_
 refine C2 (fT d.fName (by omega)) ?_
 refine S0 (fun hb h=>?_) fun hb h=>?_
 ·exact ay (by unfold eG;rw[h];rfl)
 have h1:=h
 refine S0 (fun hb h=>?_) fun hb h=>?_
 ·exact ay (by unfold eG;rw[aC (show ¬d.aF.length≤3 by omega)];simp)
 have h2:=h
 refine C2 (lX d.aF (by omega) hb0.2.2.2) ?_
 refine S0 (fun hb h=>?_) fun hb h=>?_
 ·exact ay (by unfold eG;rw[h];simp)
 have h3:=h
 refine S0 (fun hb h=>?_) fun hb h=>?_
 ·exact ay (by unfold eG;rw[aC (show ¬1≤d.aG.length by omega)];simp)
 have h4:=h
 refine S0 (fun hb h=>?_) fun hb h=>?_
 ·exact ay (by unfold eG;rw[aC (show ¬d.aG.length≤5 by omega)];simp)
 have h5:=h
 refine W3 ?_
 refine l9 3 1 [] rfl (by simp) ?_
 refine aR (ι:=Nat×List (List UInt8)) Tryz.checked.mixed rfl [1,3,36,37,38] (fun y=>[.c (.ptr (0,0) 0),.c (.bI (0,1) (y.2.map encS)),.c (.d (.sl (d.aG.map aP.enc))),.c (.d (.i .i64 d.aG.length)),.c (.d (.i .i64 y.1))]) (fun y=>[.box (d.enc.map .d),.tok 1 (y.2.map encS)]::S)
  (fun y=>y.1≤d.aG.length∧y.2=(jP d).take y.1∧∀j,∀hj:j<d.aG.length,j<y.1→mG d.aF d.aG[j]=true) (fun y=>d.aG.length-y.1) (0,[]) rfl ?_ ⟨Nat.zero_le _,rfl,fun j _ h=>by simp only at h;omega⟩ ?_
 ·exact Z1
 rintro⟨i,names⟩ ⟨p1,p2,p3⟩
 simp only at p1 p2 p3
 have pl:names.length≤d.aG.length:=by rw[p2];simp[jP];omega
 refine W1 ?_
 refine S0 (fun hb h=>?_) fun hb h=>?_
 ·have hi:i<d.aG.length:=by omega
  have hc:=aP.bounds (aO.Lc hi hsz)
  refine W3 ?_
  refine S0 (fun hb h=>?_) fun hb h=>?_
  ·rw[bad i hi (by unfold mG;rw[aC (by omega)];rfl)]
  have k1:=h
  refine W3 ?_
  refine C2 (um d.aG[i].eP d.aF (by omega) hc.2.2 (by omega)) ?_
  refine S0 (fun hb h=>?_) fun hb h=>?_
  ·rw[bad i hi (by unfold mG;rw[h];simp)]
  have k2:=h
  refine W3 ?_
  rw[show List.map encS names++[[D.s d.aG[i].fName]]=List.map encS (names++[d.aG[i].fName]) by simp[encS]]
  exact bX 2 (by decide) (i+1,names++[d.aG[i].fName]) (by simp only;omega) rfl rfl rfl rfl ⟨by simp only;omega,by simp only;rw[p2,gI (by simpa [jP] using hi)];simp[jP],fun j hj hji=>by
   simp only at hji
   by_cases e:j=i
   ·subst e;unfold mG;rw[k2,bq (by omega)];rfl
   ·exact p3 j hj (by omega)⟩
 have hi:i=d.aG.length:=by omega
 have hn:names=jP d:=by rw[p2,List.take_of_length_le (by simp[jP];omega)]
 have hall:d.aG.all (mG d.aF)=true:=List.all_eq_true.2 fun c hc=>by
  obtain⟨j,hj,e⟩:=List.getElem_of_mem hc
  rw[←e];exact p3 j hj (by omega)
 have hnl:∀s∈names,s.length≤4194304:=fun s hs=>by
  rw[hn] at hs
  obtain⟨c,hc,e⟩:=List.mem_map.1 hs
  obtain⟨j,hj,e'⟩:=List.getElem_of_mem hc
  rw[←e,←e'];exact(aP.bounds (aO.Lc hj hsz)).1
 refine C2 (lX names (by omega) hnl) ?_
 exact ay (by unfold eG;rw[h1,h3,hall,←hn,bq (show d.aF.length≤3 by omega),bq (show 1≤d.aG.length by omega),bq (show d.aG.length≤5 by omega)];simp)
end Go.Proofs.YtcfhnaohbaplhaaGreatDoor
namespace Go.Ab
def Ld:List UInt8:=[100,97,116,97]
def Cy(c:aP):aj:=bR ([bO c.fName]++c.eP.map cK)
def baseD(d:aO):List aj:=[bO Ld,bO d.fName,bR (aU d.aF)]
def yZ(d:aO):aj:=bR (baseD d++d.aG.map Cy)
noncomputable def zm(d:aO):aj:=qX (eG d) (yZ d)
def NH:List aP→Nat
 |[]=>0
 |x::xs=>x.sz+NH xs
theorem EO:∀l,aI (l.map aP.enc)=NH l
 |[]=>rfl
 |x::xs=>by rw[List.map_cons,aI,NH,EO xs];rfl
theorem Cz(x:aP):x.sz=x.fName.length+(x.eP.length+Gc x.eP):=by
 rw[←yj];simp only[aP.sz,aP.aH,bH,D.sz,List.length_map];omega
theorem AY(x:aO):x.sz=x.fName.length+(x.aF.length+(x.aF.map List.length).sum)+(x.aG.length+NH x.aG):=by
 rw[←EO,←dD];simp only[aO.sz,aO.aH,bH,D.sz,List.length_map];omega
theorem abQ(c:aP):(Cy c).sz≤1+16*c.sz:=by
 have:=Gd c.eP
 rw[Cy,iL,gK,List.length_append,List.length_map,Cz]
 simp[fB,iR];omega
theorem Qv:∀l:List aP,fB (l.map Cy)≤l.length+16*NH l
 |[]=>by simp[fB]
 |c::l=>by
  have h1:=abQ c
  have h2:=Qv l
  rw[List.map_cons,fB,NH,List.length_cons];omega
theorem VJ(d:aO):(yZ d).sz≤7+16*d.sz:=by
 have:=Qv d.aG
 rw[yZ,iL,gK,List.length_append,List.length_map,AY]
 simp[baseD,fB,iR,iL,iH,ny,Ld];omega
theorem CB(n:Nat)(a b:List UInt8)(w:List (List UInt8)):lx [bO a,bO b,bR (aU w)] (n+1)=[[.s a,.ol (n+1) []],[.s b,.ol (n+1+1) []],[.s [],.ol (n+1+1+1) (lx (aU w) (n+1+1+1+1))]]:=by
 simp only[iD,kE,iC,jl,jm,dL,cO,iP]
theorem sJ{vars:List (List UInt8)}{ts:List ah}(h:jN vars ts=true):iQ ts=true:=rY.2 fun t ht=>by
 have:=List.all_eq_true.1 h t ht
 unfold fF at this
 rw[Bool.and_eq_true] at this
 exact uq this.1
theorem IW{d:aO}(h:eG d=true):∀c∈d.aG,iQ c.eP=true:=fun c hc=>by
 have h1:d.aG.all (mG d.aF)=true:=by
  unfold eG at h
  simp only[Bool.and_eq_true] at h
  simp_all
 have h2:=List.all_eq_true.1 h1 c hc
 unfold mG at h2
 rw[Bool.and_eq_true] at h2
 exact sJ h2.2
theorem J4{l:List ah}{t:ah}(h:t∈l):t.sz≤Gc l:=by
 rw[←yj];exact bD (List.mem_map_of_mem h)
theorem GY{l:List aP}{t:aP}(h:t∈l):t.sz≤NH l:=by
 rw[←EO];exact bD (List.mem_map_of_mem h)
end Go.Ab
namespace Go.Proofs.YtcfhnaohbaplhaaGreatDoor
open Go Go.Ab
theorem y5(d:aO)(n:Nat)(hv:eG d=true)(hsz:d.sz≤1048576):aD Tryz.prog 142 [d.v] (.agg [.d (.s []),.d (.ol n (lx (yZ d).aY (n+1)))]):=fun S=>by
 have hdz:=AY d
 have hfo:=IW hv
 have hlen:d.aG.length≤1048576:=by omega
 obtain⟨L,hL⟩:∃L:Nat→Nat,L=fun i=>n+1+gD (baseD d++(d.aG.map Cy).take i):=⟨_,rfl⟩
 obtain⟨T,hT⟩:∃T:Nat→List (List D),T=fun i=>lx (baseD d++(d.aG.map Cy).take i) (n+1):=⟨_,rfl⟩
 have hT0:T 0=[[.s Ld,.ol (n+1) []],[.s d.fName,.ol (n+1+1) []],[.s [],.ol (n+1+1+1) (lx (aU d.aF) (n+1+1+1+1))]]:=by
  rw[hT];simp only[List.take_zero,List.append_nil];exact CB _ _ _ _
 have fP:∀i,(T i).length≤i+3:=fun i=>by
  rw[hT];simp only[eX,List.length_append]
  have:=List.length_take_le i (d.aG.map Cy)
  simp[baseD];omega
 have hTs:∀i (hi:i<d.aG.length),T i++[[.s [],.ol (L i) (lx ([bO d.aG[i].fName]++d.aG[i].eP.map cK) (L i+1))]]=T (i+1):=fun i hi=>by
  have:=vk (base:=baseD d) (l:=d.aG.map Cy) (i:=i) (by rw[List.length_map];exact hi) (n+1)
  rw[List.getElem_map] at this
  rw[hT,hL];exact this
 have hTr:∀i,∀r∈T i,r.length=2:=fun i=>by rw[hT];exact jc
 have hTe:T d.aG.length=lx (yZ d).aY (n+1):=by
  rw[hT];simp only
  rw[List.take_of_length_le (by simp)];rfl
 clear hT hL
 refine nk (n) 1 (rs:=[.cell 2 78]) Tryz.checked.mixed Tryz.func142 Tryz.ntmps142 rfl rfl rfl rfl rfl ?_
 refine W1 ?_
 refine C1 (bZ _ (n+1)) ?_
 refine C1 (bZ _ (n+1+1)) ?_
 refine C1 (dP d.aF (by omega) (n+1+1+1)) ?_
 refine W3 ?_
 refine kW n 3 2 (T 0) (.inl ?_) (hTr 0) ?_
 ·rw[hT0];rfl
 refine kZ (L 0) ?_
 refine aR (ι:=Nat) Tryz.checked.mixed rfl [2,3,15,16,17] (fun i=>[.c (.ptr (0,3) 0),.c (.bI (0,4) (T i)),.c (.d (.sl (d.aG.map aP.enc))),.c (.d (.i .i64 d.aG.length)),.c (.d (.i .i64 i))])
  (fun i=>[.seed (L i),.seed 1,.box [.d (.s d.fName),.d (.sl (d.aF.map encS)),.d (.sl (d.aG.map aP.enc))],.box [.d (.s []),.bC []],.eB n 2 (T i)]::S)
  (fun i=>i≤d.aG.length) (fun i=>d.aG.length-i) 0 rfl rfl (Nat.zero_le _) ?_
 intro i hi
 have hl:=fP i
 refine W1 ?_
 refine S0 (fun hb h=>?_) fun hb h=>?_
 ·have hi':i<d.aG.length:=by omega
  have hm:=List.getElem_mem hi'
  have hcz:=GY hm
  have hce:=Cz d.aG[i]
  have hs:=hTs i hi'
  refine W3 ?_
  refine C1 (bZ _ (L i+1)) ?_
  refine C1 (vN d.aG[i].eP 0 (L i+1+1) (hfo _ hm) (by omega) (fun t ht=>by have:=J4 ht;omega)) ?_
  have hr:=jc (l:=d.aG[i].eP.map cK) (n:=L i+1+1)
  have hl2:(lx (d.aG[i].eP.map cK) (L i+1+1)).length=d.aG[i].eP.length:=by rw[eX,List.length_map]
  refine W3 ?_
  refine C1 (jo _) ?_
  refine W3 ?_
  simp only[List.cons_append,List.nil_append,iD,ru,iP] at hs
  rw[hs]
  refine jf (L (i+1)) 4 (by decide) (i+1) (by omega) rfl rfl ?_ rfl (by omega)
  simp[gG,fH,V.refs,C.refs,iW]
 ·have hi':i=d.aG.length:=by omega
  refine dS rfl (iU 0 4 _ _) ?_
  refine W1 ?_
  rw[hi',hTe]
theorem Ea(d:aO)(hsz:d.sz≤1048576):aD Tryz.prog 131 [d.v] (zm d).v:=fun S=>by
 have hz:=VJ d
 have hdz:=AY d
 obtain⟨T,hT⟩:∃T:Nat→List (List D),T=fun i=>(baseD d++(d.aG.map Cy).take i).map aj.enc:=⟨_,rfl⟩
 have hT0:T 0=[[.s Ld,.sl []],[.s d.fName,.sl []],[.s [],.sl ((aU d.aF).map aj.enc)]]:=by
  rw[hT];simp only[List.take_zero,List.append_nil,baseD,List.map_cons,List.map_nil,dY,iA]
 have fP:∀i,(T i).length≤i+3:=fun i=>by
  rw[hT];simp only[List.length_map,List.length_append]
  have:=List.length_take_le i (d.aG.map Cy)
  simp[baseD];omega
 have hTs:∀i (hi:i<d.aG.length),T i++[[.s [],.sl (([bO d.aG[i].fName]++d.aG[i].eP.map cK).map aj.enc)]]=T (i+1):=fun i hi=>by
  have:=gT (base:=baseD d) (l:=d.aG.map Cy) (i:=i) (by rw[List.length_map];exact hi)
  rw[List.getElem_map] at this
  rw[hT];exact this
 have hTr:∀i,∀r∈T i,r.length=2:=fun i=>by rw[hT];exact ji
 have hTe:T d.aG.length=(yZ d).aY.map aj.enc:=by
  rw[hT];simp only
  rw[List.take_of_length_le (by simp)];rfl
 clear hT
 refine aB (rs:=[.cell 2 78]) Tryz.checked.mixed Tryz.func131 Tryz.ntmps131 rfl rfl rfl rfl rfl ?_
 refine W1 ?_
 refine C1 (bK _) ?_
 refine C1 (bK _) ?_
 refine C1 (dH d.aF (by omega)) ?_
 have hE:=fun bM Ω=>iM (T 0) (hTr 0) (by have:=fP 0;omega) bM Ω
 simp only[hT0] at hE
 refine kQ [false] rfl (hE _ _) ?_
 refine W1 ?_
 refine aR (ι:=Nat) Tryz.checked.mixed rfl [1,2,3,4] (fun i=>[.c (.ptr (0,0) 0),.c (.ptr (0,1) 0),.c (.ptr (0,4) 0),.c (.d (.i .i64 i))])
  (fun i=>[.box [.d (.s d.fName),.d (.sl (d.aF.map encS)),.d (.sl (d.aG.map aP.enc))],.box [.d (.s []),.bC []],.box [.d (.s []),.bI (0,3) (T 0)],.tok 2 (T i),.box [.d (.s []),.bI (0,3) (T i)]]::S)
  (fun i=>i≤d.aG.length) (fun i=>d.aG.length-i) 0 rfl (by simp only[hT0]<;>(try rfl)) (Nat.zero_le _) ?_
 intro i hi
 have hl:=fP i
 refine W1 ?_
 refine S0 (fun hb h=>?_) fun hb h=>?_
 ·have hi':i<d.aG.length:=by omega
  have hm:=List.getElem_mem hi'
  have hcz:=GY hm
  have hce:=Cz d.aG[i]
  have hs:=hTs i hi'
  refine W3 ?_
  refine C1 (bK _) ?_
  refine W3 ?_
  refine C1 (xw d.aG[i].eP (by omega) (fun t ht=>by have:=J4 ht;omega)) ?_
  have hr:=ji (l:=d.aG[i].eP.map cK)
  have hl2:((d.aG[i].eP.map cK).map aj.enc).length=d.aG[i].eP.length:=by rw[List.length_map,List.length_map]
  refine W3 ?_
  simp only[List.cons_append,List.nil_append,List.map_cons,dY] at hs
  rw[hs]
  exact bX 5 (by decide) (i+1) (by omega) rfl rfl rfl rfl (by omega)
 ·have hi':i=d.aG.length:=by omega
  subst hi'
  rw[hTe]
  refine C1 (yC d (by omega)) ?_
  refine C1 (nA (eG d) (yZ d) (by omega)) ?_
  rfl
end Go.Proofs.YtcfhnaohbaplhaaGreatDoor
namespace Go.Ab
noncomputable def wI(k:Int)(n:List UInt8)(bound out:List (List UInt8)):List (List UInt8):=if k=3∧n∉bound∧n∉out then out++[n] else out
mutual
noncomputable def jr:au→List (List UInt8)→List (List UInt8)→List (List UInt8)
 | .mk k _ n _ _ a b,bound,out=>rH b bound (oL a k n 0 bound (wI k n bound out))
noncomputable def oL:List au→Int→List UInt8→Nat→List (List UInt8)→List (List UInt8)→List (List UInt8)
 |[],_,_,_,_,out=>out
 |x::xs,k,n,i,bound,out=>oL xs k n (i+1) bound (jr x (if k=8∧i=1 then bound++[n] else bound) out)
noncomputable def rH:List aX→List (List UInt8)→List (List UInt8)→List (List UInt8)
 |[],_,out=>out
 |x::xs,bound,out=>rH xs bound (AZ x bound out)
noncomputable def AZ:aX→List (List UInt8)→List (List UInt8)→List (List UInt8)
 | .mk _ v b,bound,out=>jr b (bound++v) out
end
theorem NI(x:au)(bound out:List (List UInt8)):jr x bound out=rH x.aW bound (oL x.fArgs x.aV x.fName 0 bound (wI x.aV x.fName bound out)):=by cases x;rw[jr];rfl
theorem NJ(x:aX)(bound out:List (List UInt8)):AZ x bound out=jr x.fBody (bound++x.aF) out:=by cases x;rw[AZ];rfl
theorem GZ{xs:List au}{k:Int}{n:List UInt8}{i:Nat}{bound out:List (List UInt8)}(hi:i<xs.length):oL (xs.drop i) k n i bound out=oL (xs.drop (i+1)) k n (i+1) bound (jr xs[i] (if k=8∧i=1 then bound++[n] else bound) out):=by
 rw[List.drop_eq_getElem_cons hi,oL]
theorem G5{xs:List aX}{i:Nat}{bound out:List (List UInt8)}(hi:i<xs.length):rH (xs.drop i) bound out=rH (xs.drop (i+1)) bound (AZ xs[i] bound out):=by
 rw[List.drop_eq_getElem_cons hi,rH]
theorem EP(k:Int)(n:List UInt8)(bound out:List (List UInt8)):(wI k n bound out).length≤out.length+1:=by
 unfold wI;split<;>simp
mutual
theorem rz:∀(x:au) (bound out:List (List UInt8)),(jr x bound out).length≤out.length+x.cnt
 | .mk k t n m ty a b,bound,out=>by
   have h1:=EP k n bound out
   have h2:=J5 a k n 0 bound (wI k n bound out)
   have h3:=J6 b bound (oL a k n 0 bound (wI k n bound out))
   rw[jr,au.cnt];omega
theorem J5:∀(xs:List au) (k:Int) (n:List UInt8) (i:Nat) (bound out:List (List UInt8)),(oL xs k n i bound out).length≤out.length+au.dR xs
 |[],k,n,i,bound,out=>by rw[oL,au.dR];omega
 |x::xs,k,n,i,bound,out=>by
  have h1:=rz x (if k=8∧i=1 then bound++[n] else bound) out
  have h2:=J5 xs k n (i+1) bound (jr x (if k=8∧i=1 then bound++[n] else bound) out)
  rw[oL,au.dR];omega
theorem J6:∀(xs:List aX) (bound out:List (List UInt8)),(rH xs bound out).length≤out.length+aX.dR xs
 |[],bound,out=>by rw[rH,aX.dR];omega
 |x::xs,bound,out=>by
  have h1:=VK x bound out
  have h2:=J6 xs bound (AZ x bound out)
  rw[rH,aX.dR];omega
theorem VK:∀(x:aX) (bound out:List (List UInt8)),(AZ x bound out).length≤out.length+x.cnt
 | .mk c v b,bound,out=>by
   have h1:=rz b (bound++v) out
   rw[AZ,aX.cnt];omega
end
theorem au.qW{x:au}{i:Nat}(hi:i<x.fArgs.length):x.fArgs[i].sz+x.fArgs.length≤x.sz:=by
 have hx:x.fArgs[i].sz≤aI (x.fArgs.map au.enc):=bD (List.mem_map_of_mem (List.getElem_mem hi))
 have:=au.yt x
 omega
theorem au.VL{x:au}{i:Nat}(hi:i<x.aW.length):x.aW[i].sz+x.aW.length≤x.sz:=by
 have hx:x.aW[i].sz≤aI (x.aW.map aX.enc):=bD (List.mem_map_of_mem (List.getElem_mem hi))
 have:=au.yt x
 omega
theorem aX.Qw(x:aX):x.aF.length+x.fBody.sz≤x.sz:=by
 simp only[aX.sz,aX.aH,au.sz,bH,bf,D.sz,List.length_map]
 omega
theorem Dl(xs:List (List UInt8))(s:List UInt8):xs.map encS++[[D.s s]]=(xs++[s]).map encS:=by simp[encS]
end Go.Ab
namespace Go.Proofs.YtcfhnaohbaplhaaGreatDoor
open Go Go.Ab
set_option maxHeartbeats 2000000 in
theorem CF:∀N:Nat,∀x:au,SizeOf.sizeOf x<N→x.sz≤4194304→∀(bound out:List (List UInt8)) (l j:Nat) (S:Store),bL S (l,j)=some (.tok 1 (out.map encS))→out.length+x.cnt≤1073741824→bound.length+x.sz≤1073741824→
 dG Tryz.prog 365 [.c (.bI (l,j) (out.map encS)),x.v,.c (.d (.sl (bound.map encS)))] S (fun r S'=>r=.c (.bI (l,j) ((jr x bound out).map encS))∧S'=cu S (l,j) (.tok 1 ((jr x bound out).map encS)))
 |0=>fun x h=>by omega
 |N+1=>by
  have ih:=CF N
  intro x hn hsz bound out l j S hk hc hbd
  have hb0:=au.yt x
  have iX:=au.fE x
  have rZ:=au.nD x
  have hcn:=au.mW x
  have F4:∀y:Ab.Obj,bL (cu S (l,j) y) (l,j)=some y:=fun y=>gq _ _ _ _ hk
  have hS0:cu S (l,j) (.tok 1 (out.map encS))=S:=yO _ _ hk
  have fin:=NI x bound out
  have hal:=EP x.aV x.fName bound out
  obtain⟨o1,ho1⟩:∃o1,wI x.aV x.fName bound out=o1:=⟨_,rfl⟩
  rw[ho1] at fin hal
  refine(show Hold ?T→_ from fun tail=> ?main) ?tp
  case' main=>
   refine aB (rs:=[.tmp 6]) Tryz.checked.mixed Tryz.func365 Tryz.ntmps365 rfl rfl rfl rfl rfl ?_
   simp -implicitDefEqProofs (disch:=omega) only[go_sem,hk]
   repeat' (first
    |(with_reducible refine eY (fun hb=> ?_) (fun hb=> ?_)<;>have h:=hb<;>(try simp only[wf_preprocess] at h)<;>simp -implicitDefEqProofs (disch:=omega) only[go_sem,hb,hk]<;>refine W3 ?_)
    |(refine bN (qV bound x.fName (by omega)) ?_;simp -implicitDefEqProofs (disch:=omega) only[go_sem,hk];refine W3 ?_)
    |(refine bN (qV out x.fName (by omega)) ?_;simp -implicitDefEqProofs (disch:=omega) only[go_sem,hk];refine W3 ?_))
   all_goals first
    |(have ha:wI x.aV x.fName bound out=out++[x.fName]:=if_pos ⟨by assumption,by assumption,by assumption⟩)
    |(have ha:wI x.aV x.fName bound out=out:=if_neg (fun y=>by have:=y.1;have:=y.2.1;have:=y.2.2;contradiction))
   all_goals
    refine oD (st':=[.box (x.enc.map .d)]::cu S (l,j) (.tok 1 (o1.map encS))) [0,2,4,34,35,36] [.c (.bI (1+l,j) (o1.map encS)),.c (.d (.sl (bound.map encS))),.c (.ptr (0,0) 0),.c (.d (.sl (x.fArgs.map au.enc))),.c (.d (.i .i64 x.fArgs.length)),.c (.d (.i .i64 0))] ?_ ?_ ?_
    ·first|(rw[←ho1,ha];rfl)|(rw[←ho1,ha,←Dl];rfl)
    ·first|(rw[←ho1,ha,hS0];exact Z1;done)|(rw[←ho1,ha,←Dl];exact Z1;done)
    ·exact tail.out
  refine⟨?_⟩
  clear ho1
  refine aR (ι:=Nat×List (List UInt8)) Tryz.checked.mixed rfl [0,2,4,34,35,36] (fun y=>[.c (.bI (1+l,j) (y.2.map encS)),.c (.d (.sl (bound.map encS))),.c (.ptr (0,0) 0),.c (.d (.sl (x.fArgs.map au.enc))),.c (.d (.i .i64 x.fArgs.length)),.c (.d (.i .i64 y.1))]) (fun y=>[.box (x.enc.map .d)]::cu S (l,j) (.tok 1 (y.2.map encS)))
   (fun y=>y.1≤x.fArgs.length∧y.2.length+au.dR (x.fArgs.drop y.1)+aX.dR x.aW≤1073741824∧oL (x.fArgs.drop y.1) x.aV x.fName y.1 bound y.2=oL x.fArgs x.aV x.fName 0 bound o1) (fun y=>x.fArgs.length-y.1) (0,o1) rfl rfl ⟨Nat.zero_le _,by simp only[List.drop_zero];omega,rfl⟩ ?_
  rintro⟨i,o⟩ ⟨p1,p2,p3⟩
  have refs:∀{a b},gG 1 (fH [0,2,4,34,35,36] [.c (.bI (1+l,j) a),.c (.d (.sl (bound.map encS))),.c (.ptr (0,0) 0),.c (.d (.sl (x.fArgs.map au.enc))),.c (.d (.i .i64 x.fArgs.length)),.c (.d (.i .i64 b))])=true:=fun {a b}=>by simp[gG,fH,V.refs,C.refs,iW];omega
  simp only at p1 p2 p3
  refine W1 ?_
  refine S0 (fun hb h=>?_) fun hb h=>?_
  ·have hi:i<x.fArgs.length:=by omega
   have hs:=List.sizeOf_lt_of_mem (List.getElem_mem hi)
   have hz:=au.qW hi
   rw[GZ hi] at p3
   rw[au.kC hi] at p2
   have hlo:=rz x.fArgs[i] (if x.aV=8∧i=1 then bound++[x.fName] else bound) o
   refine W3 ?_
   have two:x.fArgs[i].sz+(bound.length+1)≤1073741824:=by omega
   repeat' (first|refine S0 (fun hb h=>?_) fun hb h=>?_)
   ·
    have e1:x.aV=8∧i=1:=⟨by omega,by omega⟩
    rw[if_pos e1] at p3 hlo
    refine aa7 rfl DS.push (VG bound (by omega) _ _) ?_
    refine W1 ?_
    refine W3 ?_
    rw[Dl]
    refine kQ [true,true,false] rfl (ih x.fArgs[i] (by omega) (by omega) (bound++[x.fName]) o (1+l) j _ (by refine W1 ?_;exact F4 _) (by omega) (by simp only[List.length_append,List.length_cons,List.length_nil];omega)) ?_
    simp -implicitDefEqProofs (disch:=omega) only[go_sem,nW]
    exact bX 1 (by decide) (i+1,jr x.fArgs[i] (bound++[x.fName]) o) (by simp only;omega) rfl rfl refs rfl ⟨by simp only;omega,by simp only;omega,p3⟩
   all_goals
    have e1:¬(x.aV=8∧i=1):=fun h=>by omega
    rw[if_neg e1] at p3 hlo
    refine dS rfl (ih x.fArgs[i] (by omega) (by omega) bound o (1+l) j _ (by refine W1 ?_;exact F4 _) (by omega) (by omega)) ?_
    simp -implicitDefEqProofs (disch:=omega) only[go_sem,nW]
    exact bX 1 (by decide) (i+1,jr x.fArgs[i] bound o) (by simp only;omega) rfl rfl refs rfl ⟨by simp only;omega,by simp only;omega,p3⟩
  have hi:i=x.fArgs.length:=by omega
  rw[hi,List.drop_length] at p2 p3
  rw[au.dR] at p2
  rw[oL] at p3
  rw[←p3] at fin
  clear p3 refs
  refine aR (ι:=Nat×List (List UInt8)) Tryz.checked.mixed rfl [0,2,63,64,65] (fun y=>[.c (.bI (1+l,j) (y.2.map encS)),.c (.d (.sl (bound.map encS))),.c (.d (.sl (x.aW.map aX.enc))),.c (.d (.i .i64 x.aW.length)),.c (.d (.i .i64 y.1))]) (fun y=>[.box (x.enc.map .d)]::cu S (l,j) (.tok 1 (y.2.map encS)))
   (fun y=>y.1≤x.aW.length∧y.2.length+aX.dR (x.aW.drop y.1)≤1073741824∧rH (x.aW.drop y.1) bound y.2=jr x bound out) (fun y=>x.aW.length-y.1) (0,o) rfl ?_ ⟨Nat.zero_le _,by simp only[List.drop_zero];omega,fin.symm⟩ ?_
  ·exact Z1
  clear p1 p2 fin hal
  rintro⟨i,o⟩ ⟨p1,p2,p3⟩
  have refs:∀a b,gG 1 (fH [0,2,63,64,65] [.c (.bI (1+l,j) a),.c (.d (.sl (bound.map encS))),.c (.d (.sl (x.aW.map aX.enc))),.c (.d (.i .i64 x.aW.length)),.c (.d (.i .i64 b))])=true:=fun a b=>by simp[gG,fH,V.refs,C.refs,iW];omega
  simp only at p1 p2 p3
  refine W1 ?_
  refine S0 (fun hb h=>?_) fun hb h=>?_
  ·have hi:i<x.aW.length:=by omega
   have hs:=List.sizeOf_lt_of_mem (List.getElem_mem hi)
   have hs':=aX.mI x.aW[i]
   have hz:=au.VL hi
   have hz':=aX.Qw x.aW[i]
   rw[G5 hi,NJ] at p3
   rw[aX.kC hi] at p2
   have hlo:=rz x.aW[i].fBody (bound++x.aW[i].aF) o
   have hcc:=SL [bound,x.aW[i].aF] (by simp) (by simp only[List.flatten_cons,List.flatten_nil,List.append_nil,List.length_append];omega)
   simp only[List.map_cons,List.map_nil,List.flatten_cons,List.flatten_nil,List.append_nil] at hcc
   refine W3 ?_
   refine bN hcc ?_
   refine W1 ?_
   refine dS rfl (ih x.aW[i].fBody (by omega) (by omega) (bound++x.aW[i].aF) o (1+l) j _ (by refine W1 ?_;exact F4 _) (by omega) (by simp only[List.length_append];omega)) ?_
   simp -implicitDefEqProofs (disch:=omega) only[go_sem,nW]
   exact bX 1 (by decide) (i+1,jr x.aW[i].fBody (bound++x.aW[i].aF) o) (by simp only;omega) rfl rfl (refs _ _) rfl ⟨by simp only;omega,by simp only;omega,p3⟩
  ·have hi:i=x.aW.length:=by omega
   rw[hi,List.drop_length,rH] at p3
   rw[←p3]
   exact⟨rfl,rfl⟩
theorem G6(x:au)(hsz:x.sz≤4194304):aD Tryz.prog 337 [x.v] (.c (.d (.sl ((jr x [] []).map encS)))):=fun S=>by
 have hc:=au.jW x
 have h0:∀S,dG Tryz.prog 365 [.c (.bC []),x.v,.c (.d (.sl []))] S (fun r S'=>r=.c (.d (.sl ((jr x [] []).map encS)))∧S'=S):=fun S=>by
  refine dG.XI 0 (es:=[]) (bn:=1) rfl (by simp) (CF _ x (Nat.lt_succ_self _) hsz [] [] 0 0 ([.tok 1 []]::S) rfl (by simp;omega) (by simp;omega)) ?_
  rintro r fr S' ⟨rfl,h2⟩
  injection h2 with h2 h3
  exact⟨_,rfl,rfl,h3⟩
 refine aB (rs:=[.tmp 2]) Tryz.checked.mixed Tryz.func337 Tryz.ntmps337 rfl rfl rfl rfl rfl ?_
 refine W1 ?_
 refine W3 ?_
 refine kQ [true,true,false] rfl (h0 _) ?_
 exact Z1
set_option maxHeartbeats 2000000 in
theorem CG:∀N:Nat,∀x:au,SizeOf.sizeOf x<N→x.sz≤4194304→∀(bound out:List (List UInt8)) (l j:Nat) (S:Store),bL S (l,j)=some (.tok 1 (out.map encS))→out.length+x.cnt≤1073741824→bound.length+x.sz≤1073741824→
 dG Tryz.prog 373 [x.v,.c (.d (.sl (bound.map encS))),.c (.bI (l,j) (out.map encS))] S (fun r S'=>r=.c (.bI (l,j) ((jr x bound out).map encS))∧S'=cu S (l,j) (.tok 1 ((jr x bound out).map encS)))
 |0=>fun x h=>by omega
 |N+1=>by
  have ih:=CG N
  intro x hn hsz bound out l j S hk hc hbd
  have hb0:=au.yt x
  have iX:=au.fE x
  have rZ:=au.nD x
  have hcn:=au.mW x
  have F4:∀y:Ab.Obj,bL (cu S (l,j) y) (l,j)=some y:=fun y=>gq _ _ _ _ hk
  have hS0:cu S (l,j) (.tok 1 (out.map encS))=S:=yO _ _ hk
  have fin:=NI x bound out
  have hal:=EP x.aV x.fName bound out
  obtain⟨o1,ho1⟩:∃o1,wI x.aV x.fName bound out=o1:=⟨_,rfl⟩
  rw[ho1] at fin hal
  refine(show Hold ?T→_ from fun tail=> ?main) ?tp
  case' main=>
   refine aB (rs:=[.tmp 6]) Tryz.checked.mixed Tryz.func373 Tryz.ntmps373 rfl rfl rfl rfl rfl ?_
   simp -implicitDefEqProofs (disch:=omega) only[go_sem,hk]
   repeat' (first
    |(with_reducible refine eY (fun hb=> ?_) (fun hb=> ?_)<;>have h:=hb<;>(try simp only[wf_preprocess] at h)<;>simp -implicitDefEqProofs (disch:=omega) only[go_sem,hb,hk]<;>refine W3 ?_)
    |(refine bN (pQ bound x.fName (by omega)) ?_;simp -implicitDefEqProofs (disch:=omega) only[go_sem,hk];refine W3 ?_)
    |(refine bN (pQ out x.fName (by omega)) ?_;simp -implicitDefEqProofs (disch:=omega) only[go_sem,hk];refine W3 ?_))
   all_goals first
    |(have ha:wI x.aV x.fName bound out=out++[x.fName]:=if_pos ⟨by assumption,by assumption,by assumption⟩)
    |(have ha:wI x.aV x.fName bound out=out:=if_neg (fun y=>by have:=y.1;have:=y.2.1;have:=y.2.2;contradiction))
   all_goals
    refine oD (st':=[.box (x.enc.map .d)]::cu S (l,j) (.tok 1 (o1.map encS))) [1,2,3,7] [.c (.d (.sl (bound.map encS))),.c (.bI (1+l,j) (o1.map encS)),.c (.ptr (0,0) 0),.c (.d (.i .i64 0))] ?_ ?_ ?_
    ·first|(rw[←ho1,ha];rfl)|(rw[←ho1,ha,←Dl];rfl)
    ·first|(rw[←ho1,ha,hS0];exact Z1;done)|(rw[←ho1,ha,←Dl];exact Z1;done)
    ·exact tail.out
  refine⟨?_⟩
  clear ho1
  refine aR (ι:=Nat×List (List UInt8)) Tryz.checked.mixed rfl [1,2,3,7] (fun y=>[.c (.d (.sl (bound.map encS))),.c (.bI (1+l,j) (y.2.map encS)),.c (.ptr (0,0) 0),.c (.d (.i .i64 y.1))]) (fun y=>[.box (x.enc.map .d)]::cu S (l,j) (.tok 1 (y.2.map encS)))
   (fun y=>y.1≤x.fArgs.length∧y.2.length+au.dR (x.fArgs.drop y.1)+aX.dR x.aW≤1073741824∧oL (x.fArgs.drop y.1) x.aV x.fName y.1 bound y.2=oL x.fArgs x.aV x.fName 0 bound o1) (fun y=>x.fArgs.length-y.1) (0,o1) rfl rfl ⟨Nat.zero_le _,by simp only[List.drop_zero];omega,rfl⟩ ?_
  rintro⟨i,o⟩ ⟨p1,p2,p3⟩
  have refs:∀{a b},gG 1 (fH [1,2,3,7] [.c (.d (.sl (bound.map encS))),.c (.bI (1+l,j) a),.c (.ptr (0,0) 0),.c (.d (.i .i64 b))])=true:=fun {a b}=>by simp[gG,fH,V.refs,C.refs,iW];omega
  simp only at p1 p2 p3
  refine W1 ?_
  refine S0 (fun hb h=>?_) fun hb h=>?_
  ·have hi:i<x.fArgs.length:=by omega
   have hs:=List.sizeOf_lt_of_mem (List.getElem_mem hi)
   have hz:=au.qW hi
   rw[GZ hi] at p3
   rw[au.kC hi] at p2
   have hlo:=rz x.fArgs[i] (if x.aV=8∧i=1 then bound++[x.fName] else bound) o
   have two:x.fArgs[i].sz+(bound.length+1)≤1073741824:=by omega
   repeat' (first|refine S0 (fun hb h=>?_) fun hb h=>?_)
   ·have e1:x.aV=8∧i=1:=⟨by omega,by omega⟩
    rw[if_pos e1] at p3 hlo
    refine⟨yB,⟨_,rfl,rfl⟩,fun y hy=>(by cases hy),by omega,?_⟩
    refine W3 ?_
    rw[Dl]
    refine kQ [true,false,true] rfl (ih x.fArgs[i] (by omega) (by omega) (bound++[x.fName]) o (1+l) j _ (by refine W1 ?_;exact F4 _) (by omega) (by simp only[List.length_append,List.length_cons,List.length_nil];omega)) ?_
    simp -implicitDefEqProofs (disch:=omega) only[go_sem,nW]
    exact bX 1 (by decide) (i+1,jr x.fArgs[i] (bound++[x.fName]) o) (by simp only;omega) rfl rfl refs rfl ⟨by simp only;omega,by simp only;omega,p3⟩
   all_goals
    have e1:¬(x.aV=8∧i=1):=fun h=>by omega
    rw[if_neg e1] at p3 hlo
    refine W3 ?_
    refine dS rfl (ih x.fArgs[i] (by omega) (by omega) bound o (1+l) j _ (by refine W1 ?_;exact F4 _) (by omega) (by omega)) ?_
    simp -implicitDefEqProofs (disch:=omega) only[go_sem,nW]
    exact bX 1 (by decide) (i+1,jr x.fArgs[i] bound o) (by simp only;omega) rfl rfl refs rfl ⟨by simp only;omega,by simp only;omega,p3⟩
  have hi:i=x.fArgs.length:=by omega
  rw[hi,List.drop_length] at p2 p3
  rw[au.dR] at p2
  rw[oL] at p3
  rw[←p3] at fin
  clear p3 refs
  refine aR (ι:=Nat×List (List UInt8)) Tryz.checked.mixed rfl [1,2,3,9] (fun y=>[.c (.d (.sl (bound.map encS))),.c (.bI (1+l,j) (y.2.map encS)),.c (.ptr (0,0) 0),.c (.d (.i .i64 y.1))]) (fun y=>[.box (x.enc.map .d)]::cu S (l,j) (.tok 1 (y.2.map encS)))
   (fun y=>y.1≤x.aW.length∧y.2.length+aX.dR (x.aW.drop y.1)≤1073741824∧rH (x.aW.drop y.1) bound y.2=jr x bound out) (fun y=>x.aW.length-y.1) (0,o) rfl ?_ ⟨Nat.zero_le _,by simp only[List.drop_zero];omega,fin.symm⟩ ?_
  ·exact Z1
  clear p1 p2 fin hal
  rintro⟨i,o⟩ ⟨p1,p2,p3⟩
  have refs:∀a b,gG 1 (fH [1,2,3,9] [.c (.d (.sl (bound.map encS))),.c (.bI (1+l,j) a),.c (.ptr (0,0) 0),.c (.d (.i .i64 b))])=true:=fun a b=>by simp[gG,fH,V.refs,C.refs,iW];omega
  simp only at p1 p2 p3
  refine W1 ?_
  refine S0 (fun hb h=>?_) fun hb h=>?_
  ·have hi:i<x.aW.length:=by omega
   have hs:=List.sizeOf_lt_of_mem (List.getElem_mem hi)
   have hs':=aX.mI x.aW[i]
   have hz:=au.VL hi
   have hz':=aX.Qw x.aW[i]
   rw[G5 hi,NJ] at p3
   rw[aX.kC hi] at p2
   have hlo:=rz x.aW[i].fBody (bound++x.aW[i].aF) o
   refine⟨yB,⟨_,rfl,rfl⟩,fun y hy=>(by cases hy),by omega,⟨by omega,hi⟩,yB,⟨_,rfl,rfl⟩,by omega,?_⟩
   rw[←List.map_append]
   refine kQ [true,false,true] rfl (ih x.aW[i].fBody (by omega) (by omega) (bound++x.aW[i].aF) o (1+l) j _ (by refine W1 ?_;exact F4 _) (by omega) (by simp only[List.length_append];omega)) ?_
   simp -implicitDefEqProofs (disch:=omega) only[go_sem,nW]
   exact bX 1 (by decide) (i+1,jr x.aW[i].fBody (bound++x.aW[i].aF) o) (by simp only;omega) rfl rfl (refs _ _) rfl ⟨by simp only;omega,by simp only;omega,p3⟩
  ·have hi:i=x.aW.length:=by omega
   rw[hi,List.drop_length,rH] at p3
   rw[←p3]
   exact⟨rfl,rfl⟩
theorem G7(x:au)(hsz:x.sz≤4194304):aD Tryz.prog 355 [x.v] (.c (.d (.sl ((jr x [] []).map encS)))):=fun S=>by
 have hc:=au.jW x
 have h0:∀S,dG Tryz.prog 373 [x.v,.c (.d (.sl [])),.c (.bC [])] S (fun r S'=>r=.c (.d (.sl ((jr x [] []).map encS)))∧S'=S):=fun S=>by
  refine dG.XI 2 (es:=[]) (bn:=1) rfl (by simp) (CG _ x (Nat.lt_succ_self _) hsz [] [] 0 0 ([.tok 1 []]::S) rfl (by simp;omega) (by simp;omega)) ?_
  rintro r fr S' ⟨rfl,h2⟩
  injection h2 with h2 h3
  exact⟨_,rfl,rfl,h3⟩
 refine aB (rs:=[.tmp 2]) Tryz.checked.mixed Tryz.func355 Tryz.ntmps355 rfl rfl rfl rfl rfl ?_
 refine W1 ?_
 refine W3 ?_
 refine kQ [true,false,true] rfl (h0 _) ?_
 exact Z1
end Go.Proofs.YtcfhnaohbaplhaaGreatDoor
namespace Go.Proofs.YtcfhnaohbaplhaaGreatDoor
open Go Go.Ab
theorem wO:∀n:Nat,(∀x:ah,SizeOf.sizeOf x<n→∀y:ah,x.sz≤4194304→aD Tryz.prog 391 [x.v,y.v] (.c (.d (.b (dec (x=y))))))∧
 (∀xs:List ah,SizeOf.sizeOf xs<n→∀ys:List ah,xs.length+aI (xs.map ah.enc)≤4194304→aD Tryz.prog 406 [.c (.d (.sl (xs.map ah.enc))),.c (.d (.sl (ys.map ah.enc)))] (.c (.d (.b (dec (xs=ys))))))
 |0=>⟨fun x h=>by omega,fun x h=>by omega⟩
 |n+1=>by
  obtain⟨ih,BS⟩:=wO n
  refine⟨fun x hn y hsz S=> ?_,fun xs hn ys hsz S=> ?_⟩
  ·have iX:=ah.fE x
   simp only[ah.sz,ah.aH,bH,bf,D.sz,List.length_map] at hsz
   refine aB (rs:=[.tmp 4]) Tryz.checked.mixed Tryz.func391 Tryz.ntmps391 rfl rfl rfl rfl rfl ?_
   refine W1 ?_
   refine S0 (fun hb h=>?_) fun hb h=>?_
   ·refine S0 (fun hb h=>?_) fun hb h=>?_
    ·refine W3 ?_
     refine C1 (BS x.fArgs (by omega) y.fArgs (by omega)) ?_
     refine ay (gP ⟨fun e=> ?_,fun e=>by rw[e]⟩)
     exact ah.ext ‹x.aV=y.aV› h e
    ·exact ay (aC (fun e=>h (by rw[e]))).symm
   ·exact ay (aC (fun e=>h (by rw[e]))).symm
  ·refine aB (rs:=[.tmp 4]) Tryz.checked.mixed Tryz.func406 Tryz.ntmps406 rfl rfl rfl rfl rfl ?_
   refine W1 ?_
   refine S0 (fun hb h=>?_) fun hb h=>?_
   ·exact ay (aC (fun e=>h (by rw[e]))).symm
   have hl:xs.length=ys.length:=by omega
   refine aR (ι:=Nat) Tryz.checked.mixed rfl [0,1,5] (fun y=>[.c (.d (.sl (xs.map ah.enc))),.c (.d (.sl (ys.map ah.enc))),.c (.d (.i .i64 y))]) (fun y=>[]::S)
    (fun i=>i≤xs.length∧∀j,j<i→xs[j]? =ys[j]?) (fun y=>xs.length-y) 0 rfl rfl ⟨Nat.zero_le _,fun j h=>by omega⟩ ?_
   rintro i ⟨p1,p2⟩
   refine W1 ?_
   refine S0 (fun hb h=>?_) fun hb h=>?_
   ·have hi:i<xs.length:=by omega
    have hi':i<ys.length:=by omega
    have hx:xs[i].sz≤aI (xs.map ah.enc):=bD (List.mem_map_of_mem (List.getElem_mem hi))
    refine W3 ?_
    refine C1 (ih xs[i] (by have:=List.sizeOf_lt_of_mem (List.getElem_mem hi);omega) ys[i] (by omega)) ?_
    refine S0 (fun hb h=>?_) fun hb h=>?_
    ·exact ay (aC (fun e=>h (by simp only[e]))).symm
    refine bF (i+1) (by omega) rfl rfl ⟨by omega,fun j hj=> ?_⟩
    by_cases e:j=i
    ·subst e
     rw[List.getElem?_eq_getElem hi,List.getElem?_eq_getElem hi',h]
    ·exact p2 j (by omega)
   ·have hi:i=xs.length:=by omega
    refine ay (bq (List.ext_getElem? fun j=> ?_)).symm
    by_cases hj:j<i
    ·exact p2 j hj
    ·rw[List.getElem?_eq_none (by omega),List.getElem?_eq_none (by omega)]
theorem ER(x y:ah)(h:x.sz≤4194304):aD Tryz.prog 391 [x.v,y.v] (.c (.d (.b (dec (x=y))))):=(wO _).1 x (Nat.lt_succ_self _) y h
theorem wP:∀n:Nat,(∀x:ah,SizeOf.sizeOf x<n→∀y:ah,x.sz≤4194304→aD Tryz.prog 375 [x.v,y.v] (.c (.d (.b (dec (x=y))))))∧
 (∀xs:List ah,SizeOf.sizeOf xs<n→∀ys:List ah,xs.length+aI (xs.map ah.enc)≤4194304→aD Tryz.prog 393 [.c (.d (.sl (xs.map ah.enc))),.c (.d (.sl (ys.map ah.enc))),.c (.fn 375 [])] (.c (.d (.b (dec (xs=ys))))))
 |0=>⟨fun x h=>by omega,fun x h=>by omega⟩
 |n+1=>by
  obtain⟨ih,BS⟩:=wP n
  refine⟨fun x hn y hsz S=> ?_,fun xs hn ys hsz S=> ?_⟩
  ·have iX:=ah.fE x
   simp only[ah.sz,ah.aH,bH,bf,D.sz,List.length_map] at hsz
   refine aB (rs:=[.tmp 4]) Tryz.checked.mixed Tryz.func375 Tryz.ntmps375 rfl rfl rfl rfl rfl ?_
   refine W1 ?_
   refine S0 (fun hb h=>?_) fun hb h=>?_
   ·refine S0 (fun hb h=>?_) fun hb h=>?_
    ·refine W3 ?_
     refine C1 (BS x.fArgs (by omega) y.fArgs (by omega)) ?_
     refine ay (gP ⟨fun e=> ?_,fun e=>by rw[e]⟩)
     exact ah.ext ‹x.aV=y.aV› h e
    ·exact ay (aC (fun e=>h (by rw[e]))).symm
   ·exact ay (aC (fun e=>h (by rw[e]))).symm
  ·refine aB (rs:=[.tmp 6]) Tryz.checked.mixed Tryz.func393 Tryz.ntmps393 rfl rfl rfl rfl rfl ?_
   refine W1 ?_
   refine S0 (fun hb h=>?_) fun hb h=>?_
   ·exact ay (aC (fun e=>h (by rw[e]))).symm
   have hl:xs.length=ys.length:=by omega
   refine aR (ι:=Nat) Tryz.checked.mixed rfl [1,2,15,16,17] (fun y=>[.c (.d (.sl (ys.map ah.enc))),.c (.fn 375 []),.c (.d (.sl (xs.map ah.enc))),.c (.d (.i .i64 xs.length)),.c (.d (.i .i64 y))]) (fun y=>[]::S)
    (fun i=>i≤xs.length∧∀j,j<i→xs[j]? =ys[j]?) (fun y=>xs.length-y) 0 rfl rfl ⟨Nat.zero_le _,fun j h=>by omega⟩ ?_
   rintro i ⟨p1,p2⟩
   refine W1 ?_
   refine S0 (fun hb h=>?_) fun hb h=>?_
   ·have hi:i<xs.length:=by omega
    have hi':i<ys.length:=by omega
    have hx:xs[i].sz≤aI (xs.map ah.enc):=bD (List.mem_map_of_mem (List.getElem_mem hi))
    refine W3 ?_
    refine C1 (ih xs[i] (by have:=List.sizeOf_lt_of_mem (List.getElem_mem hi);omega) ys[i] (by omega)) ?_
    refine S0 (fun hb h=>?_) fun hb h=>?_
    ·exact ay (aC (fun e=>h (by simp only[e]))).symm
    refine bX 0 (by decide) (i+1) (by omega) rfl rfl rfl rfl ⟨by omega,fun j hj=> ?_⟩
    by_cases e:j=i
    ·subst e
     rw[List.getElem?_eq_getElem hi,List.getElem?_eq_getElem hi',h]
    ·exact p2 j (by omega)
   ·have hi:i=xs.length:=by omega
    refine ay (bq (List.ext_getElem? fun j=> ?_)).symm
    by_cases hj:j<i
    ·exact p2 j hj
    ·rw[List.getElem?_eq_none (by omega),List.getElem?_eq_none (by omega)]
theorem ES(x y:ah)(h:x.sz≤4194304):aD Tryz.prog 375 [x.v,y.v] (.c (.d (.b (dec (x=y))))):=(wP _).1 x (Nat.lt_succ_self _) y h
end Go.Proofs.YtcfhnaohbaplhaaGreatDoor
namespace Go.Ab
theorem au.yD{x:au}(h:x.sz≤4194304):x.bJ.length≤4194304∧x.fName.length≤4194304∧x.fType.sz≤4194304∧x.fArgs.length≤4194304∧x.aW.length≤4194304:=by
 simp only[au.sz,au.aH,bH,bf,D.sz,List.length_map,ah.cZ] at h
 omega
theorem au.Zb{x:au}{i:Nat}(hi:i<x.fArgs.length)(h:x.sz≤4194304):x.fArgs[i].sz≤4194304:=by
 have hx:x.fArgs[i].sz≤aI (x.fArgs.map au.enc):=bD (List.mem_map_of_mem (List.getElem_mem hi))
 simp only[au.sz,au.aH,bH,bf,D.sz,List.length_map,ah.cZ] at h
 omega
theorem au.Zc{x:au}{i:Nat}(hi:i<x.aW.length)(h:x.sz≤4194304):x.aW[i].sz≤4194304:=by
 have hx:x.aW[i].sz≤aI (x.aW.map aX.enc):=bD (List.mem_map_of_mem (List.getElem_mem hi))
 simp only[au.sz,au.aH,bH,bf,D.sz,List.length_map,ah.cZ] at h
 omega
theorem aX.yD{x:aX}(h:x.sz≤4194304):x.dx.length≤4194304∧x.aF.length≤4194304∧x.fBody.sz≤4194304:=by
 simp only[aX.sz,aX.aH,bH,bf,D.sz,List.length_map,au.cZ] at h
 omega
end Go.Ab
namespace Go.Proofs.YtcfhnaohbaplhaaGreatDoor
open Go Go.Ab
theorem wQ:∀n:Nat,∀x:au,SizeOf.sizeOf x<n→∀y:au,x.sz≤4194304→aD Tryz.prog 358 [x.v,y.v] (.c (.d (.b (dec (x=y)))))
 |0=>fun x h=>by omega
 |n+1=>by
  have ih:=wQ n
  intro x hn y hsz S
  have iX:=au.fE x
  have rZ:=au.nD x
  have hb0:=au.yD hsz
  have hargs:=Er 358 x.fArgs y.fArgs (by omega) (fun u hu v=>by
   obtain⟨i,hi,e⟩:=List.getElem_of_mem hu
   have:=List.sizeOf_lt_of_mem hu
   exact ih u (by omega) v (by rw[←e];exact au.Zb hi hsz))
  have adZ:=F8 378 x.aW y.aW (by omega) (fun u hu v=>by
   obtain⟨i,hi,e⟩:=List.getElem_of_mem hu
   have hs:=List.sizeOf_lt_of_mem hu
   have hz:u.sz≤4194304:=by rw[←e];exact au.Zc hi hsz
   have hz':=aX.yD hz
   have K8:=aX.mI u
   intro S
   refine aB (rs:=[.tmp 4]) Tryz.checked.mixed Tryz.func378 Tryz.ntmps378 rfl rfl rfl rfl rfl ?_
   refine W1 ?_
   refine S0 (fun hb h=>?_) fun hb h=>?_
   ·have h1:=h
    refine C2 (Ve u.aF v.aF (by omega)) ?_
    refine S0 (fun hb h=>?_) fun hb h=>?_
    ·have h2:=h
     refine C2 (ih u.fBody (by omega) v.fBody (by omega)) ?_
     exact ay (gP ⟨fun e=>aX.ext h1 h2 e,fun e=>by rw[e]⟩)
    ·exact ay (aC (fun e=>h (by rw[e]))).symm
   ·exact ay (aC (fun e=>h (by rw[e]))).symm)
  refine aB (rs:=[.tmp 4]) Tryz.checked.mixed Tryz.func358 Tryz.ntmps358 rfl rfl rfl rfl rfl ?_
  refine W1 ?_
  refine S0 (fun hb h=>?_) fun hb h=>?_
  ·have h1:=h
   refine S0 (fun hb h=>?_) fun hb h=>?_
   ·have h2:=h
    refine S0 (fun hb h=>?_) fun hb h=>?_
    ·have h3:=h
     refine S0 (fun hb h=>?_) fun hb h=>?_
     ·have h4:=h
      refine C2 (ES x.fType y.fType (by omega)) ?_
      refine S0 (fun hb h=>?_) fun hb h=>?_
      ·have h5:=h
       refine C2 (hargs) ?_
       refine S0 (fun hb h=>?_) fun hb h=>?_
       ·have h6:=h
        refine C2 (adZ) ?_
        exact ay (gP ⟨fun e=>au.ext h1 h2 h3 h4 h5 h6 e,fun e=>by rw[e]⟩)
       ·exact ay (aC (fun e=>h (by rw[e]))).symm
      ·exact ay (aC (fun e=>h (by rw[e]))).symm
     ·exact ay (aC (fun e=>h (by rw[e]))).symm
    ·exact ay (aC (fun e=>h (by rw[e]))).symm
   ·exact ay (aC (fun e=>h (by rw[e]))).symm
  ·exact ay (aC (fun e=>h (by rw[e]))).symm
theorem ET(x y:au)(h:x.sz≤4194304):aD Tryz.prog 358 [x.v,y.v] (.c (.d (.b (dec (x=y))))):=wQ _ x (Nat.lt_succ_self _) y h
theorem wR:∀n:Nat,∀x:au,SizeOf.sizeOf x<n→∀y:au,x.sz≤4194304→aD Tryz.prog 371 [x.v,y.v] (.c (.d (.b (dec (x=y)))))
 |0=>fun x h=>by omega
 |n+1=>by
  have ih:=wR n
  intro x hn y hsz S
  have iX:=au.fE x
  have rZ:=au.nD x
  have hb0:=au.yD hsz
  refine aB (rs:=[.tmp 4]) Tryz.checked.mixed Tryz.func371 Tryz.ntmps371 rfl rfl rfl rfl rfl ?_
  refine W1 ?_
  refine S0 (fun hb h=>?_) fun hb h=>?_
  ·exact ay (aC (fun e=>h (by rw[e]))).symm
  have h1:=h
  refine S0 (fun hb h=>?_) fun hb h=>?_
  ·exact ay (aC (fun e=>h (by rw[e]))).symm
  have h2:=h
  refine S0 (fun hb h=>?_) fun hb h=>?_
  ·exact ay (aC (fun e=>h (by rw[e]))).symm
  have h3:=h
  refine S0 (fun hb h=>?_) fun hb h=>?_
  ·exact ay (aC (fun e=>h (by rw[e]))).symm
  have h4:=h
  refine C2 (ER x.fType y.fType (by omega)) ?_
  refine S0 (fun hb h=>?_) fun hb h=>?_
  ·exact ay (aC (fun e=>h (by rw[e]))).symm
  have h5:=h
  refine S0 (fun hb h=>?_) fun hb h=>?_
  ·exact ay (aC (fun e=>h (by rw[e]))).symm
  have h6:x.fArgs.length=y.fArgs.length:=by omega
  refine S0 (fun hb h=>?_) fun hb h=>?_
  ·exact ay (aC (fun e=>h (by rw[e]))).symm
  have h7:x.aW.length=y.aW.length:=by omega
  refine aR (ι:=Nat) Tryz.checked.mixed rfl [2,3,5] (fun i=>[.c (.ptr (0,0) 0),.c (.ptr (0,1) 0),.c (.d (.i .i64 i))]) (fun _=>[.box (x.enc.map .d),.box (y.enc.map .d)]::S)
   (fun i=>i≤x.fArgs.length∧∀j,j<i→x.fArgs[j]? =y.fArgs[j]?) (fun i=>x.fArgs.length-i) 0 rfl ?_ ⟨Nat.zero_le _,fun j h=>by omega⟩ ?_
  ·exact Z1
  rintro i ⟨p1,p2⟩
  refine W1 ?_
  refine S0 (fun hb h=>?_) fun hb h=>?_
  ·have hi:i<x.fArgs.length:=by omega
   have hi':i<y.fArgs.length:=by omega
   refine W3 ?_
   refine C2 (ih x.fArgs[i] (by have:=List.sizeOf_lt_of_mem (List.getElem_mem hi);omega) y.fArgs[i] (au.Zb hi hsz)) ?_
   refine S0 (fun hb h=>?_) fun hb h=>?_
   ·exact ay (aC (fun e=>h (by simp only[e]))).symm
   refine bF (i+1) (by omega) rfl rfl ⟨by omega,fun j hj=> ?_⟩
   by_cases e:j=i
   ·subst e
    rw[List.getElem?_eq_getElem hi,List.getElem?_eq_getElem hi',h]
   ·exact p2 j (by omega)
  have hi:i=x.fArgs.length:=by omega
  have h8:x.fArgs=y.fArgs:=List.ext_getElem? fun j=>by
   by_cases hj:j<i
   ·exact p2 j hj
   ·rw[List.getElem?_eq_none (by omega),List.getElem?_eq_none (by omega)]
  refine aR (ι:=Nat) Tryz.checked.mixed rfl [2,3,6] (fun i=>[.c (.ptr (0,0) 0),.c (.ptr (0,1) 0),.c (.d (.i .i64 i))]) (fun _=>[.box (x.enc.map .d),.box (y.enc.map .d)]::S)
   (fun i=>i≤x.aW.length∧∀j,j<i→x.aW[j]? =y.aW[j]?) (fun i=>x.aW.length-i) 0 rfl ?_ ⟨Nat.zero_le _,fun j h=>by omega⟩ ?_
  ·exact Z1
  clear p1 p2 hi hb h
  clear i
  rintro i ⟨p1,p2⟩
  refine W1 ?_
  refine S0 (fun hb h=>?_) fun hb h=>?_
  ·have hi:i<x.aW.length:=by omega
   have hi':i<y.aW.length:=by omega
   have hs:=List.sizeOf_lt_of_mem (List.getElem_mem hi)
   have hz:=aX.yD (au.Zc hi hsz)
   have K8:=aX.mI x.aW[i]
   refine W3 ?_
   refine S0 (fun hb h=>?_) fun hb h=>?_
   ·exact ay (aC (fun e=>h (by simp only[e]))).symm
   have k1:=h
   refine W3 ?_
   refine C2 (O4 x.aW[i].aF y.aW[i].aF (by omega)) ?_
   refine S0 (fun hb h=>?_) fun hb h=>?_
   ·exact ay (aC (fun e=>h (by simp only[e]))).symm
   have k2:=h
   refine W3 ?_
   refine C2 (ih x.aW[i].fBody (by omega) y.aW[i].fBody (by omega)) ?_
   refine S0 (fun hb h=>?_) fun hb h=>?_
   ·exact ay (aC (fun e=>h (by simp only[e]))).symm
   have k3:=h
   refine bF (i+1) (by omega) rfl rfl ⟨by omega,fun j hj=> ?_⟩
   by_cases e:j=i
   ·subst e
    rw[List.getElem?_eq_getElem hi,List.getElem?_eq_getElem hi',aX.ext k1 k2 k3]
   ·exact p2 j (by omega)
  ·have hi:i=x.aW.length:=by omega
   have h9:x.aW=y.aW:=List.ext_getElem? fun j=>by
    by_cases hj:j<i
    ·exact p2 j hj
    ·rw[List.getElem?_eq_none (by omega),List.getElem?_eq_none (by omega)]
   exact ay (bq (au.ext h1 h2 h3 h4 h5 h8 h9)).symm
theorem EU(x y:au)(h:x.sz≤4194304):aD Tryz.prog 371 [x.v,y.v] (.c (.d (.b (dec (x=y))))):=wR _ x (Nat.lt_succ_self _) y h
end Go.Proofs.YtcfhnaohbaplhaaGreatDoor
namespace Go.Proofs.YtcfhnaohbaplhaaGreatDoor
open Go Go.Ab
theorem zR:∀n:Nat,∀t:ah,SizeOf.sizeOf t<n→t.sz≤4194304→∀v:List UInt8,aD Tryz.prog 354 [t.v,.c (.d (.s v))] (.c (.d (.i .i64 (nI v t))))
 |0=>fun t h=>by omega
 |n+1=>by
  have ih:=zR n
  intro t hn hsz v S
  have iX:=ah.fE t
  have hts:=BO hsz
  have hcl:=U9 v t
  have hcn:=jW t
  have he:=U8 v t
  refine aB (rs:=[.tmp 4]) Tryz.checked.mixed Tryz.func354 Tryz.ntmps354 rfl rfl rfl rfl rfl ?_
  refine W1 ?_
  repeat' (first|(refine S0 (fun hb h=>?_) fun hb h=>?_))
  all_goals first
   |(have hc:nI v t=1+rF v t.fArgs:=by rw[he,if_pos (by simp only[FV,decide_eq_true_eq];exact⟨by assumption,by assumption⟩)])
   |(have hc:nI v t=0+rF v t.fArgs:=by rw[he,if_neg (by simp only[FV,decide_eq_true_eq];exact fun x=>by have:=x.1;have:=x.2;contradiction)])
  all_goals
   refine aR (ι:=Nat×Nat) Tryz.checked.mixed rfl [1,2,5,6] (fun y=>[.c (.d (.s v)),.c (.ptr (0,0) 0),.c (.d (.i .i64 y.2)),.c (.d (.i .i64 y.1))]) (fun _=>[.box [.d (.i .i64 t.aV),.d (.s t.fName),.d (.sl (t.fArgs.map ah.enc))]]::S)
    (fun y=>y.1≤t.fArgs.length∧nI v t=y.2+rF v (t.fArgs.drop y.1)) (fun y=>t.fArgs.length-y.1) (0,_) rfl rfl ⟨Nat.zero_le _,hc⟩ ?_
   rintro⟨i,c⟩ ⟨p1,p2⟩
   simp only at p1 p2
   refine W1 ?_
   refine S0 (fun hb h=>?_) fun hb h=>?_
   ·have hi:i<t.fArgs.length:=by omega
    rw[MU hi] at p2
    refine W3 ?_
    refine C2 (ih t.fArgs[i] (by have:=List.sizeOf_lt_of_mem (List.getElem_mem hi);omega) (xD hi hsz).1 v) ?_
    rw[show(c:Int)+(nI v t.fArgs[i]:Int)=((c+nI v t.fArgs[i]:Nat):Int) by omega]
    exact bF (i+1,c+nI v t.fArgs[i]) (by simp only;omega) rfl rfl ⟨by simp only;omega,by simp only;omega⟩
   ·have hi:i=t.fArgs.length:=by omega
    rw[hi,List.drop_length] at p2
    have h0:rF v []=0:=rfl
    exact int_eq (by omega)
theorem KL(v:List UInt8)(t:ah)(hsz:t.sz≤4194304):aD Tryz.prog 306 [.c (.d (.s v)),t.v] (.c (.d (.b (occurs v t)))):=fun S=>by
 refine aB (rs:=[.tmp 4]) Tryz.checked.mixed Tryz.func306 Tryz.ntmps306 rfl rfl rfl rfl rfl ?_
 refine W1 ?_
 refine C2 (zR _ t (Nat.lt_succ_self _) hsz v) ?_
 exact ay (by unfold occurs;rw[Bool.eq_iff_iff];simp only[decide_eq_true_eq];omega)
end Go.Proofs.YtcfhnaohbaplhaaGreatDoor
namespace Go.Ab
def zeroE:au:=.mk 0 [] [] 0 (.mk 0 [] []) [] []
def Dm:List (List UInt8):=[[115,101,108,102]]
noncomputable def zS(vars:List (List UInt8))(e:au):Bool:=om e&&among (jr e [] []) vars
noncomputable def nM(vars:List (List UInt8))(e:au):Bool:=gQ vars&&zS vars e
noncomputable def kY(vars:List (List UInt8))(b:bA):Bool:=(validName b.bJ&&lg b.fType)&&(!nS b.fType&&among (iB [] b.fType) vars)
noncomputable def mR(vars:List (List UInt8))(bs:List bA):Bool:=dec (bs.length≤4)&&bs.all (kY vars)
noncomputable def gN(g:aT):Bool:=
 validName g.fName&&(dec (g.aZ.length≤4)&&(jN Dm g.aZ&&(fF Dm g.bU&&
  (if g.iy=true then dec (g.aF.length=g.aZ.length+1)&&nM g.aF g.fBody else dec (g.aF.length=0)&&dec (g.fBody=zeroE)))))
theorem tH{xs:List ah}{t:ah}(h:t∈xs):t.sz≤aI (xs.map ah.enc):=bD (List.mem_map_of_mem h)
theorem mM{xs:List bA}{t:bA}(h:t∈xs):t.sz≤aI (xs.map bA.enc):=bD (List.mem_map_of_mem h)
theorem aT.sum(x:aT):x.fName.length+(x.aZ.length+aI (x.aZ.map ah.enc))+x.bU.sz+(x.aF.length+aI (x.aF.map encS))+x.fBody.sz≤x.sz:=by
 simp only[aT.sz,aT.aH,bH,bf,D.sz,List.length_map,ah.cZ,au.cZ]
 omega
theorem bA.sum(x:bA):x.bJ.length+x.fType.sz≤x.sz:=by
 simp only[bA.sz,bA.aH,bH,bf,D.sz,List.length_map,ah.cZ]
 omega
theorem NK(e:au)(h:e.sz≤4194304):(jr e [] []).length≤1073741824:=by
 have h1:=rz e [] []
 have h2:=au.jW e
 simp at h1
 omega
theorem G8(t:ah)(h:t.sz≤4194304):(iB [] t).length≤1073741824:=by
 have h1:=vZ t []
 have h2:=_root_.Go.Ab.jW t
 simp at h1
 omega
theorem Eb(vars:List (List UInt8))(t:ah):fF vars t=(lg t&&among (iB [] t) vars):=rfl
end Go.Ab
namespace Go.Proofs.YtcfhnaohbaplhaaGreatDoor
open Go Go.Ab
theorem CJ(vars:List (List UInt8))(e:au)(hv:vars.length≤1073741824)(hs:∀s∈vars,s.length≤4194304)(hsz:e.sz≤4194304):aD Tryz.prog 267 [.c (.d (.sl (vars.map encS))),e.v] (.c (.d (.b (nM vars e)))):=fun S=>by
 refine aB (rs:=[.tmp 4]) Tryz.checked.mixed Tryz.func267 Tryz.ntmps267 rfl rfl rfl rfl rfl ?_
 refine W1 ?_
 refine C2 (lX vars hv hs) ?_
 refine S0 (fun hb h=>?_) fun hb h=>?_
 ·have h1:=h
  refine C2 (EL e hsz) ?_
  refine S0 (fun hb h=>?_) fun hb h=>?_
  ·have h2:=h
   refine C2 (G6 e hsz) ?_
   refine C2 (vL _ vars (NK e hsz) hv) ?_
   exact ay (by unfold nM zS;rw[h1,h2];rfl)
  ·exact ay (by unfold nM zS;rw[h];simp)
 ·exact ay (by unfold nM;rw[h];rfl)
theorem A8(vars:List (List UInt8))(e:au)(hv:vars.length≤1073741824)(hsz:e.sz≤4194304):aD Tryz.prog 307 [e.v,.c (.d (.sl (vars.map encS)))] (.c (.d (.b (zS vars e)))):=fun S=>by
 have hlen:=NK e hsz
 refine aB (rs:=[.tmp 4]) Tryz.checked.mixed Tryz.func307 Tryz.ntmps307 rfl rfl rfl rfl rfl ?_
 refine W1 ?_
 refine C2 (G7 e hsz) ?_
 unfold zS
 generalize jr e [] []=xs at hlen ⊢
 refine aR (ι:=Nat) Tryz.checked.mixed rfl [1,2,5,6] (fun i=>[.c (.d (.sl (vars.map encS))),.c (.ptr (0,0) 0),.c (.d (.sl (xs.map encS))),.c (.d (.i .i64 i))]) (fun _=>[.box (e.enc.map .d)]::S)
  (fun i=>i≤xs.length∧among (xs.drop i) vars=among xs vars) (fun i=>xs.length-i) 0 rfl ?_ ⟨Nat.zero_le _,rfl⟩ ?_
 ·exact Z1
 rintro i ⟨p1,p2⟩
 simp -implicitDefEqProofs (disch:=omega) only[go_sem,encS]
 with_reducible refine eY (fun hb=> ?_) (fun hb=> ?_)<;>have h:=hb<;>(try simp only[wf_preprocess] at h)<;>simp -implicitDefEqProofs (disch:=omega) only[go_sem,hb,encS]<;>refine W3 ?_
 ·have hi:i<xs.length:=by omega
  rw[List.drop_eq_getElem_cons hi] at p2
  have p3:among xs vars=(dec (xs[i]∈vars)&&among (xs.drop (i+1)) vars):=p2.symm
  refine W3 ?_
  refine C2 (pQ vars xs[i] hv) ?_
  refine S0 (fun hb h=>?_) fun hb h=>?_
  ·exact ay (by rw[p3,aC h];simp)
  ·exact bF (i+1) (by omega) rfl rfl ⟨by omega,by rw[p3,bq h];rfl⟩
 ·rw[List.drop_of_length_le (by omega)] at p2
  have p3:among xs vars=true:=p2.symm
  refine W3 ?_
  refine C2 (EM e hsz) ?_
  exact ay (by rw[p3];simp)
theorem G9(vars:List (List UInt8))(hv:vars.length≤1073741824)(rest:List Ab.Obj)(S:Store)(b:bA)(hb:b.sz≤4194304):lV Tryz.prog 335 [((0,0),0)] ((.box [.d (.sl (vars.map encS))]::rest)::S) [b.v] (.c (.d (.b (!kY vars b)))):=fun F=>by
 have hs:=bA.sum b
 refine aB (rs:=[.tmp 3]) Tryz.checked.mixed Tryz.func335 Tryz.ntmps335 rfl rfl rfl rfl rfl ?_
 refine W1 ?_
 refine C2 (Du b (by omega) (by omega)) ?_
 refine S0 (fun hb h=>?_) fun hb h=>?_
 ·exact ay (by unfold kY;rw[h];rfl)
 have h1:=h
 refine W3 ?_
 refine C2 (zK b.fType (by omega)) ?_
 refine S0 (fun hb h=>?_) fun hb h=>?_
 ·exact ay (by unfold kY;rw[h];simp)
 have h2:=h
 refine W3 ?_
 refine C2 (uj b.fType (by omega)) ?_
 refine C2 (vL _ vars (G8 _ (by omega)) hv) ?_
 exact ay (by unfold kY;rw[h1,h2];simp)
theorem CK(bs:List bA)(vars:List (List UInt8))(hl:bs.length≤1073741824)(hz:∀b∈bs,b.sz≤4194304)(hv:vars.length≤1073741824):aD Tryz.prog 265 [.c (.d (.sl (bs.map bA.enc))),.c (.d (.sl (vars.map encS)))] (.c (.d (.b (mR vars bs)))):=fun S=>by
 have ha:(bs.any fun t=> !kY vars t)= !bs.all (kY vars):=by rw[List.not_all_eq_any_not]
 refine aB (rs:=[.tmp 4]) Tryz.checked.mixed Tryz.func265 Tryz.ntmps265 rfl rfl rfl rfl rfl ?_
 refine W1 ?_
 refine S0 (fun hb h=>?_) fun hb h=>?_
 ·have h1:=h
  refine W3 ?_
  refine dS rfl (Au 335 [((0,0),0)] _ bs (fun t=> !kY vars t) hl fun t hx=>G9 vars hv [] S t (hz t hx)) ?_
  refine W1 ?_
  rw[ha]
  exact ay (by unfold mR;rw[bq (by omega)];simp)
 ·exact ay (by unfold mR;rw[aC (by omega)];rfl)
theorem Ec(bs:List bA)(vars:List (List UInt8))(hl:bs.length≤1073741824)(hz:∀b∈bs,b.sz≤4194304)(hv:vars.length≤1073741824):aD Tryz.prog 305 [.c (.d (.sl (bs.map bA.enc))),.c (.d (.sl (vars.map encS)))] (.c (.d (.b (mR vars bs)))):=fun S=>by
 refine aB (rs:=[.tmp 4]) Tryz.checked.mixed Tryz.func305 Tryz.ntmps305 rfl rfl rfl rfl rfl ?_
 refine W1 ?_
 refine aR (ι:=Nat) Tryz.checked.mixed rfl [0,1,5] (fun i=>[.c (.d (.sl (bs.map bA.enc))),.c (.d (.sl (vars.map encS))),.c (.d (.i .i64 i))]) (fun _=>[]::S)
  (fun i=>i≤bs.length∧(bs.drop i).all (kY vars)=bs.all (kY vars)) (fun i=>bs.length-i) 0 rfl rfl ⟨Nat.zero_le _,rfl⟩ ?_
 rintro i ⟨p1,p2⟩
 refine W1 ?_
 refine S0 (fun hb h=>?_) fun hb h=>?_
 ·have hi:i<bs.length:=by omega
  have hb:=hz _ (List.getElem_mem hi)
  have hs:=bA.sum bs[i]
  rw[List.drop_eq_getElem_cons hi,List.all_cons] at p2
  have no:kY vars bs[i]=false→V.c (.d (.b false))=V.c (.d (.b (mR vars bs))):=fun h=>ay (by unfold mR;rw[←p2,h];simp)
  refine W3 ?_
  refine C2 (Dt bs[i] (by omega) (by omega)) ?_
  refine S0 (fun hb h=>?_) fun hb h=>?_
  ·exact no (by unfold kY;rw[h];rfl)
  have h1:=h
  refine W3 ?_
  refine C2 (pR bs[i].fType vars (by omega) hv) ?_
  refine S0 (fun hb h=>?_) fun hb h=>?_
  ·exact no (by unfold kY;rw[Eb] at h;rw[Bool.and_eq_true] at h1;rw[h1.2,Bool.true_and] at h;rw[h];simp)
  have h2:=h
  refine W3 ?_
  refine C2 (zJ bs[i].fType (by omega)) ?_
  refine S0 (fun hb h=>?_) fun hb h=>?_
  ·exact no (by unfold kY;rw[h];simp)
  have h3:=h
  rw[Eb,Bool.and_eq_true] at h2
  exact bF (i+1) (by omega) rfl rfl ⟨by omega,by rw[←p2];unfold kY;rw[h1,h2.2,h3];rfl⟩
 ·rw[List.drop_of_length_le (by omega)] at p2
  exact ay (by unfold mR;rw[←p2,lW];simp only[List.all_nil,Bool.and_true];exact gP ⟨fun h=>by omega,fun h=>by omega⟩)
theorem KM(e:au)(hsz:e.sz≤4194304):aD Tryz.prog 326 [e.v] (.c (.d (.b (dec (e=zeroE))))):=fun S=>by
 refine aB (rs:=[.tmp 2]) Tryz.checked.mixed Tryz.func326 Tryz.ntmps326 rfl rfl rfl rfl rfl ?_
 refine W1 ?_
 exact C3 (ET e zeroE hsz)
theorem Te(e:au)(hsz:e.sz≤4194304):aD Tryz.prog 351 [e.v] (.c (.d (.b (dec (e=zeroE))))):=fun S=>by
 refine aB (rs:=[.tmp 2]) Tryz.checked.mixed Tryz.func351 Tryz.ntmps351 rfl rfl rfl rfl rfl ?_
 refine W1 ?_
 exact C3 (EU e zeroE hsz)
theorem IX(g:aT)(hsz:g.sz≤4194304):aD Tryz.prog 259 [g.v] (.c (.d (.b (gN g)))):=fun S=>by
 have hs:=aT.sum g
 have hT:∀t∈g.aZ,t.sz≤4194304:=fun t ht=>by have:=tH ht;omega
 have hV:∀s∈g.aF,s.length≤4194304:=fun s h=>by have:=nZ h;omega
 refine aB (rs:=[.tmp 2]) Tryz.checked.mixed Tryz.func259 Tryz.ntmps259 rfl rfl rfl rfl rfl ?_
 refine W1 ?_
 refine C2 (fT g.fName (by omega)) ?_
 refine S0 (fun hb h=>?_) fun hb h=>?_
 ·exact ay (by unfold gN;rw[h];rfl)
 have h1:=h
 refine S0 (fun hb h=>?_) fun hb h=>?_
 ·exact ay (by unfold gN;rw[aC (show ¬g.aZ.length≤4 by omega)];simp)
 have h2:=h
 refine W3 ?_
 refine C1 (um g.aZ Dm (by omega) hT (by decide)) ?_
 refine S0 (fun hb h=>?_) fun hb h=>?_
 ·exact ay (by unfold gN;rw[h];simp)
 have h3:=h
 refine W3 ?_
 refine C1 (qg g.bU Dm (by omega) (by decide)) ?_
 refine S0 (fun hb h=>?_) fun hb h=>?_
 ·exact ay (by unfold gN;rw[h];simp)
 have h4:=h
 refine S0 (fun hb h=>?_) fun hb h=>?_
 ·have h5:=h
  refine S0 (fun hb h=>?_) fun hb h=>?_
  ·have h6:=h
   refine C2 (CJ g.aF g.fBody (by omega) hV (by omega)) ?_
   exact ay (by unfold gN;rw[h1,h3,h4,if_pos h5,bq (show g.aZ.length≤4 by omega),bq (show g.aF.length=g.aZ.length+1 by omega)];rfl)
  ·exact ay (by unfold gN;rw[if_pos h5,aC (show ¬g.aF.length=g.aZ.length+1 by omega)];simp)
 ·have h5:¬g.iy=true:=by rw[h];simp
  refine S0 (fun hb h=>?_) fun hb h=>?_
  ·refine C2 (KM g.fBody (by omega)) ?_
   exact ay (by unfold gN;rw[h1,h3,h4,if_neg h5,bq (show g.aZ.length≤4 by omega),bq (show g.aF.length=0 by omega)];rfl)
  ·exact ay (by unfold gN;rw[if_neg h5,aC (show ¬g.aF.length=0 by omega)];simp)
theorem VN(g:aT)(hsz:g.sz≤4194304):aD Tryz.prog 301 [g.v] (.c (.d (.b (gN g)))):=fun S=>by
 have hs:=aT.sum g
 have hT:∀t∈g.aZ,t.sz≤4194304:=fun t ht=>by have:=tH ht;omega
 have hV:∀s∈g.aF,s.length≤4194304:=fun s h=>by have:=nZ h;omega
 refine aB (rs:=[.tmp 2]) Tryz.checked.mixed Tryz.func301 Tryz.ntmps301 rfl rfl rfl rfl rfl ?_
 refine W1 ?_
 refine C2 (fU g.fName (by omega)) ?_
 refine S0 (fun hb h=>?_) fun hb h=>?_
 ·exact ay (by unfold gN;rw[h];rfl)
 have h1:=h
 refine S0 (fun hb h=>?_) fun hb h=>?_
 ·exact ay (by unfold gN;rw[aC (show ¬g.aZ.length≤4 by omega)];simp)
 have h2:=h
 refine W3 ?_
 refine C1 (JK g.aZ Dm (by omega) hT (by decide)) ?_
 refine S0 (fun hb h=>?_) fun hb h=>?_
 ·exact ay (by unfold gN;rw[h];simp)
 have h3:=h
 refine W3 ?_
 refine C1 (pR g.bU Dm (by omega) (by decide)) ?_
 refine S0 (fun hb h=>?_) fun hb h=>?_
 ·exact ay (by unfold gN;rw[h];simp)
 have h4:=h
 refine S0 (fun hb h=>?_) fun hb h=>?_
 ·have h5:¬g.iy=true:=by rw[h];simp
  refine S0 (fun hb h=>?_) fun hb h=>?_
  ·refine C2 (Te g.fBody (by omega)) ?_
   exact ay (by unfold gN;rw[h1,h3,h4,if_neg h5,bq (show g.aZ.length≤4 by omega),bq (show g.aF.length=0 by omega)];rfl)
  ·exact ay (by unfold gN;rw[if_neg h5,aC (show ¬g.aF.length=0 by omega)];simp)
 ·have h5:=h
  refine C2 (jX g.aF 5 (by omega) hV) ?_
  refine S0 (fun hb h=>?_) fun hb h=>?_
  ·have h6:=h
   rw[Bool.and_eq_true] at h6
   refine S0 (fun hb h=>?_) fun hb h=>?_
   ·refine C2 (A8 g.aF g.fBody (by omega) (by omega)) ?_
    exact ay (by unfold gN nM;rw[h1,h3,h4,if_pos h5,h6.2,bq (show g.aZ.length≤4 by omega),bq (show g.aF.length=g.aZ.length+1 by omega)];rfl)
   ·exact ay (by unfold gN;rw[if_pos h5,aC (show ¬g.aF.length=g.aZ.length+1 by omega)];simp)
  ·refine ay ?_
   by_cases h7:g.aF.length=g.aZ.length+1
   ·rw[bq (by omega),Bool.true_and] at h
    unfold gN nM;rw[if_pos h5,h];simp
   ·unfold gN;rw[if_pos h5,aC h7];simp
end Go.Proofs.YtcfhnaohbaplhaaGreatDoor
namespace Go.Proofs.YtcfhnaohbaplhaaGreatDoor
open Go Go.Ab
theorem Pw(x:bB):∀left:Int,0≤left→left≤1048576→kK x.enc→aD Tryz.prog 299 [x.v,.c (.d (.i .i64 left))] (.c (.d (.i .i64 (cB left x.sz)))):=by
 intro left h0 h1 hf S
 simp only[bB.aH,List.cons_append,List.nil_append,iG,iw,iq,and_true] at hf
 obtain⟨fName,aF,fBody⟩:=hf
 have hz:x.sz=x.fName.length+((x.aF.length+aI (x.aF.map encS))+(x.fBody.sz)):=by
  simp only[bB.sz,bB.aH,bH,bf,D.sz,List.length_map,Nat.add_zero,Nat.zero_add,au.cZ]<;>omega
 refine aB (rs:=[.tmp 4]) Tryz.checked.mixed Tryz.func299 Tryz.ntmps299 rfl rfl rfl rfl rfl ?_
 rw[hz]
 have xu:=pK fName
 refine W1 ?_
 refine S0 (fun hb h=>?_) fun hb h=>?_
 ·exact int_eq (bT (by omega)).symm
 refine C1 (mo x.aF _ (by omega) (by omega) aF) ?_
 refine S0 (fun hb h=>?_) fun hb h=>?_
 ·have h':=dA h
  exact int_eq (bT (by omega)).symm
 have hVars:=dO h
 simp only[hVars.1]
 refine C1 (Ce x.fBody _ (by omega) (by omega) fBody) ?_
 refine S0 (fun hb h=>?_) fun hb h=>?_
 ·have h':=dA h
  exact int_eq (bT (by omega)).symm
 have AJ:=dO h
 simp only[AJ.1]
 refine int_eq ?_
 rw[fq (by omega)]
 omega
theorem NM(xs:List bB):∀left:Int,0≤left→left≤1048576→(D.sl (xs.map bB.enc)).Fit→aD Tryz.prog 215 [.c (.d (.sl (xs.map bB.enc))),.c (.d (.i .i64 left))] (.c (.d (.i .i64 (cB left (xs.length+aI (xs.map bB.enc)))))):=by
 intro left h0 h1 hf S
 obtain⟨hf1,hf2⟩:=nY hf
 rw[List.length_map] at hf1
 refine aB (rs:=[.tmp 4]) Tryz.checked.mixed Tryz.func215 Tryz.ntmps215 rfl rfl rfl rfl rfl ?_
 refine W1 ?_
 refine S0 (fun hb h=>?_) fun hb h=>?_
 ·exact int_eq (bT (by omega)).symm
 refine aR (ι:=Nat×Int) Tryz.checked.mixed rfl [0,1,5] (fun y=>[.c (.d (.sl (xs.map bB.enc))),.c (.d (.i .i64 y.2)),.c (.d (.i .i64 y.1))]) (fun _=>[]::S)
  (fun y=>y.1≤xs.length∧0≤y.2∧y.2≤1048576∧cB y.2 (aI ((xs.map bB.enc).drop y.1))=cB left (xs.length+aI (xs.map bB.enc))) (fun y=>xs.length-y.1) (0,left-xs.length) rfl rfl ⟨by omega,by omega,by omega,?_⟩ ?_
 ·unfold cB
  rw[List.drop_zero]
  split<;>split<;>omega
 rintro⟨i,l⟩ ⟨p1,p2,p3,p4⟩
 simp only at p1 p2 p3 p4
 refine W1 ?_
 refine S0 (fun hb h=>?_) fun hb h=>?_
 ·have hi:i<xs.length:=by omega
  rw[List.drop_eq_getElem_cons (by rw[List.length_map];exact hi),aI,List.getElem_map,bB.cZ] at p4
  refine W3 ?_
  refine C1 (Pw xs[i] _ (by omega) (by omega) (hf2 _ (List.mem_map_of_mem (List.getElem_mem hi)))) ?_
  refine S0 (fun hb h=>?_) fun hb h=>?_
  ·have h':=dA h
   rw[←p4,bT (by omega)]
  ·have h':=dO h
   refine bF (i+1,cB l _) (by simp only;omega) rfl rfl ⟨by simp only;omega,by simp only;omega,by simp only;omega,?_⟩
   simp only
   rw[←p4,h'.1]
   unfold cB
   split<;>split<;>omega
 ·have hi:i=xs.length:=by omega
  rw[hi,List.drop_of_length_le (by simp),aI,fq (by omega)] at p4
  rw[←p4]
  refine int_eq ?_
  omega
theorem Px(x:bB):x.sz≤1048576→aD Tryz.prog 311 [x.v] x.v:=by
 intro hsz S
 simp only[bB.sz,bB.aH,bH,bf,D.sz,List.length_map,au.cZ] at hsz
 refine aB (rs:=[.cell 2 265]) Tryz.checked.mixed Tryz.func311 Tryz.ntmps311 rfl rfl rfl rfl rfl ?_
 refine W1 ?_
 refine C1 (mq x.aF (by omega)) ?_
 exact C3 (Cg x.fBody (by omega))
theorem NN(xs:List bB):xs.length+aI (xs.map bB.enc)≤1048576→aD Tryz.prog 226 [.c (.d (.sl (xs.map bB.enc)))] (.c (.d (.sl (xs.map bB.enc)))):=by
 intro hsz S
 refine aB (rs:=[.tmp 2]) Tryz.checked.mixed Tryz.func226 Tryz.ntmps226 rfl rfl rfl rfl rfl ?_
 refine W1 ?_
 refine W3 ?_
 refine aR (ι:=Nat×List (List D)) Tryz.checked.mixed rfl [0,3,4] (fun y=>[.c (.d (.sl (xs.map bB.enc))),.c (.jd (0,0)),.c (.d (.i .i64 y.1))]) (fun y=>[.eT 11 y.2]::S)
  (fun y=>y.1≤xs.length∧fI 11 y.1 y.2 (xs.map bB.enc)) (fun y=>xs.length-y.1) (0,_) rfl rfl ⟨Nat.zero_le _,fI.start (by simp) rfl⟩ ?_
 rintro⟨i,R⟩ ⟨p1,p2⟩
 simp only at p1 p2
 refine W1 ?_
 refine S0 (fun hb h=>?_) fun hb h=>?_
 ·have hi:i<xs.length:=by omega
  have hx:xs[i].sz≤aI (xs.map bB.enc):=bD (List.mem_map_of_mem (List.getElem_mem hi))
  refine W3 ?_
  refine C1 (Px xs[i] (by omega)) ?_
  have hR:=p2.1
  rw[List.length_map] at hR
  refine W3 ?_
  refine bF (i+1,_) (by simp only;omega) rfl rfl ⟨by simp only;omega,p2.step (by simp[hi,au.aH,bB.aH,ah.aH]) rfl⟩
 ·have hi:i=xs.length:=by omega
  rw[p2.done (by rw[List.length_map];omega)]
theorem Py(x:bB):∀y:bB,x.sz≤1048576→aD Tryz.prog 316 [x.v,y.v] (.c (.d (.b (dec (x=y))))):=by
 intro y hsz S
 simp only[bB.sz,bB.aH,bH,bf,D.sz,List.length_map,au.cZ] at hsz
 refine aB (rs:=[.tmp 4]) Tryz.checked.mixed Tryz.func316 Tryz.ntmps316 rfl rfl rfl rfl rfl ?_
 refine W1 ?_
 refine S0 (fun hb h=>?_) fun hb h=>?_
 ·exact ay (aC (fun e=>h (by rw[e]))).symm
 have ni:=h
 clear h
 refine C1 (mD x.aF _ (by omega)) ?_
 refine S0 (fun hb h=>?_) fun hb h=>?_
 ·exact ay (aC (fun e=>h (by rw[e]))).symm
 have uw:=h
 clear h
 refine C1 (Ch x.fBody _ (by omega)) ?_
 refine S0 (fun hb h=>?_) fun hb h=>?_
 ·exact ay (aC (fun e=>h (by rw[e]))).symm
 have AL:=h
 clear h
 exact ay (bq (bB.ext' ni uw AL)).symm
theorem NP(xs:List bB):∀ys:List bB,xs.length+aI (xs.map bB.enc)≤1048576→aD Tryz.prog 233 [.c (.d (.sl (xs.map bB.enc))),.c (.d (.sl (ys.map bB.enc)))] (.c (.d (.b (dec (xs=ys))))):=by
 intro ys hsz S
 refine aB (rs:=[.tmp 4]) Tryz.checked.mixed Tryz.func233 Tryz.ntmps233 rfl rfl rfl rfl rfl ?_
 refine W1 ?_
 refine S0 (fun hb h=>?_) fun hb h=>?_
 ·exact ay (aC (fun e=>h (by rw[e]))).symm
 have hl:xs.length=ys.length:=by omega
 refine aR (ι:=Nat) Tryz.checked.mixed rfl [0,1,5] (fun y=>[.c (.d (.sl (xs.map bB.enc))),.c (.d (.sl (ys.map bB.enc))),.c (.d (.i .i64 y))]) (fun y=>[]::S)
  (fun i=>i≤xs.length∧∀j,j<i→xs[j]? =ys[j]?) (fun y=>xs.length-y) 0 rfl rfl ⟨Nat.zero_le _,fun j h=>by omega⟩ ?_
 rintro i ⟨p1,p2⟩
 refine W1 ?_
 refine S0 (fun hb h=>?_) fun hb h=>?_
 ·have hi:i<xs.length:=by omega
  have hi':i<ys.length:=by omega
  have hx:xs[i].sz≤aI (xs.map bB.enc):=bD (List.mem_map_of_mem (List.getElem_mem hi))
  refine W3 ?_
  refine C1 (Py xs[i] ys[i] (by omega)) ?_
  refine S0 (fun hb h=>?_) fun hb h=>?_
  ·exact ay (aC (fun e=>h (by simp only[e]))).symm
  refine bF (i+1) (by omega) rfl rfl ⟨by omega,fun j hj=> ?_⟩
  by_cases e:j=i
  ·subst e
   rw[List.getElem?_eq_getElem hi,List.getElem?_eq_getElem hi',h]
  ·exact p2 j (by omega)
 ·have hi:i=xs.length:=by omega
  refine ay (bq (List.ext_getElem? fun j=> ?_)).symm
  by_cases hj:j<i
  ·exact p2 j hj
  ·rw[List.getElem?_eq_none (by omega),List.getElem?_eq_none (by omega)]
end Go.Proofs.YtcfhnaohbaplhaaGreatDoor
namespace Go.Proofs.YtcfhnaohbaplhaaGreatDoor
open Go Go.Ab
theorem KN(x:aQ):∀left:Int,0≤left→left≤1048576→kK x.enc→aD Tryz.prog 125 [x.v,.c (.d (.i .i64 left))] (.c (.d (.i .i64 (cB left x.sz)))):=by
 intro left h0 h1 hf S
 simp only[aQ.aH,List.cons_append,List.nil_append,iG,iw,iq,and_true] at hf
 obtain⟨bJ,aF,bV,bY,iT,fA,bQ,aL⟩:=hf
 have hz:x.sz=x.bJ.length+((x.aF.length+aI (x.aF.map encS))+(x.bV.sz+((x.bY.length+aI (x.bY.map bA.enc))+(x.bQ.sz+((x.aL.length+aI (x.aL.map bB.enc))))))):=by
  simp only[aQ.sz,aQ.aH,bH,bf,D.sz,List.length_map,Nat.add_zero,Nat.zero_add,ah.cZ]<;>omega
 refine aB (rs:=[.tmp 4]) Tryz.checked.mixed Tryz.func125 Tryz.ntmps125 rfl rfl rfl rfl rfl ?_
 rw[hz]
 have Vk:=pK bJ
 refine W1 ?_
 refine S0 (fun hb h=>?_) fun hb h=>?_
 ·exact int_eq (bT (by omega)).symm
 refine C1 (mo x.aF _ (by omega) (by omega) aF) ?_
 refine S0 (fun hb h=>?_) fun hb h=>?_
 ·have h':=dA h
  exact int_eq (bT (by omega)).symm
 have hVars:=dO h
 simp only[hVars.1]
 refine C1 (qY x.bV _ (by omega) (by omega) bV) ?_
 refine S0 (fun hb h=>?_) fun hb h=>?_
 ·have h':=dA h
  exact int_eq (bT (by omega)).symm
 have hHead:=dO h
 simp only[hHead.1]
 refine C1 (DW x.bY _ (by omega) (by omega) bY) ?_
 refine S0 (fun hb h=>?_) fun hb h=>?_
 ·have h':=dA h
  exact int_eq (bT (by omega)).symm
 have NQ:=dO h
 simp only[NQ.1]
 refine C1 (qY x.bQ _ (by omega) (by omega) bQ) ?_
 refine S0 (fun hb h=>?_) fun hb h=>?_
 ·have h':=dA h
  exact int_eq (bT (by omega)).symm
 have abR:=dO h
 simp only[abR.1]
 refine C1 (NM x.aL _ (by omega) (by omega) aL) ?_
 refine S0 (fun hb h=>?_) fun hb h=>?_
 ·have h':=dA h
  exact int_eq (bT (by omega)).symm
 have Yr:=dO h
 simp only[Yr.1]
 refine int_eq ?_
 rw[fq (by omega)]
 omega
theorem IY(xs:List aQ):∀left:Int,0≤left→left≤1048576→(D.sl (xs.map aQ.enc)).Fit→aD Tryz.prog 55 [.c (.d (.sl (xs.map aQ.enc))),.c (.d (.i .i64 left))] (.c (.d (.i .i64 (cB left (xs.length+aI (xs.map aQ.enc)))))):=by
 intro left h0 h1 hf S
 obtain⟨hf1,hf2⟩:=nY hf
 rw[List.length_map] at hf1
 refine aB (rs:=[.tmp 4]) Tryz.checked.mixed Tryz.func55 Tryz.ntmps55 rfl rfl rfl rfl rfl ?_
 refine W1 ?_
 refine S0 (fun hb h=>?_) fun hb h=>?_
 ·exact int_eq (bT (by omega)).symm
 refine aR (ι:=Nat×Int) Tryz.checked.mixed rfl [0,1,5] (fun y=>[.c (.d (.sl (xs.map aQ.enc))),.c (.d (.i .i64 y.2)),.c (.d (.i .i64 y.1))]) (fun _=>[]::S)
  (fun y=>y.1≤xs.length∧0≤y.2∧y.2≤1048576∧cB y.2 (aI ((xs.map aQ.enc).drop y.1))=cB left (xs.length+aI (xs.map aQ.enc))) (fun y=>xs.length-y.1) (0,left-xs.length) rfl rfl ⟨by omega,by omega,by omega,?_⟩ ?_
 ·unfold cB
  rw[List.drop_zero]
  split<;>split<;>omega
 rintro⟨i,l⟩ ⟨p1,p2,p3,p4⟩
 simp only at p1 p2 p3 p4
 refine W1 ?_
 refine S0 (fun hb h=>?_) fun hb h=>?_
 ·have hi:i<xs.length:=by omega
  rw[List.drop_eq_getElem_cons (by rw[List.length_map];exact hi),aI,List.getElem_map,aQ.cZ] at p4
  refine W3 ?_
  refine C1 (KN xs[i] _ (by omega) (by omega) (hf2 _ (List.mem_map_of_mem (List.getElem_mem hi)))) ?_
  refine S0 (fun hb h=>?_) fun hb h=>?_
  ·have h':=dA h
   rw[←p4,bT (by omega)]
  ·have h':=dO h
   refine bF (i+1,cB l _) (by simp only;omega) rfl rfl ⟨by simp only;omega,by simp only;omega,by simp only;omega,?_⟩
   simp only
   rw[←p4,h'.1]
   unfold cB
   split<;>split<;>omega
 ·have hi:i=xs.length:=by omega
  rw[hi,List.drop_of_length_le (by simp),aI,fq (by omega)] at p4
  rw[←p4]
  refine int_eq ?_
  omega
theorem KO(x:aQ):x.sz≤1048576→aD Tryz.prog 137 [x.v] x.v:=by
 intro hsz S
 simp only[aQ.sz,aQ.aH,bH,bf,D.sz,List.length_map,ah.cZ] at hsz
 refine aB (rs:=[.cell 2 193]) Tryz.checked.mixed Tryz.func137 Tryz.ntmps137 rfl rfl rfl rfl rfl ?_
 refine W1 ?_
 refine C1 (mq x.aF (by omega)) ?_
 refine C1 (qZ x.bV (by omega)) ?_
 refine C1 (DX x.bY (by omega)) ?_
 refine C1 (qZ x.bQ (by omega)) ?_
 exact C3 (NN x.aL (by omega))
theorem IZ(xs:List aQ):xs.length+aI (xs.map aQ.enc)≤1048576→aD Tryz.prog 61 [.c (.d (.sl (xs.map aQ.enc)))] (.c (.d (.sl (xs.map aQ.enc)))):=by
 intro hsz S
 refine aB (rs:=[.tmp 2]) Tryz.checked.mixed Tryz.func61 Tryz.ntmps61 rfl rfl rfl rfl rfl ?_
 refine W1 ?_
 refine W3 ?_
 refine aR (ι:=Nat×List (List D)) Tryz.checked.mixed rfl [0,3,4] (fun y=>[.c (.d (.sl (xs.map aQ.enc))),.c (.jd (0,0)),.c (.d (.i .i64 y.1))]) (fun y=>[.eT 12 y.2]::S)
  (fun y=>y.1≤xs.length∧fI 12 y.1 y.2 (xs.map aQ.enc)) (fun y=>xs.length-y.1) (0,_) rfl rfl ⟨Nat.zero_le _,fI.start (by simp) rfl⟩ ?_
 rintro⟨i,R⟩ ⟨p1,p2⟩
 simp only at p1 p2
 refine W1 ?_
 refine S0 (fun hb h=>?_) fun hb h=>?_
 ·have hi:i<xs.length:=by omega
  have hx:xs[i].sz≤aI (xs.map aQ.enc):=bD (List.mem_map_of_mem (List.getElem_mem hi))
  refine W3 ?_
  refine C1 (KO xs[i] (by omega)) ?_
  have hR:=p2.1
  rw[List.length_map] at hR
  refine W3 ?_
  refine bF (i+1,_) (by simp only;omega) rfl rfl ⟨by simp only;omega,p2.step (by simp[hi,aQ.aH,ah.aH]) rfl⟩
 ·have hi:i=xs.length:=by omega
  rw[p2.done (by rw[List.length_map];omega)]
theorem KP(x:aQ):∀y:aQ,x.sz≤1048576→aD Tryz.prog 148 [x.v,y.v] (.c (.d (.b (dec (x=y))))):=by
 intro y hsz S
 simp only[aQ.sz,aQ.aH,bH,bf,D.sz,List.length_map,ah.cZ] at hsz
 refine aB (rs:=[.tmp 4]) Tryz.checked.mixed Tryz.func148 Tryz.ntmps148 rfl rfl rfl rfl rfl ?_
 refine W1 ?_
 refine S0 (fun hb h=>?_) fun hb h=>?_
 ·exact ay (aC (fun e=>h (by rw[e]))).symm
 have Cb:=h
 clear h
 refine C1 (mD x.aF _ (by omega)) ?_
 refine S0 (fun hb h=>?_) fun hb h=>?_
 ·exact ay (aC (fun e=>h (by rw[e]))).symm
 have uw:=h
 clear h
 refine C1 (q8 x.bV _ (by omega)) ?_
 refine S0 (fun hb h=>?_) fun hb h=>?_
 ·exact ay (aC (fun e=>h (by rw[e]))).symm
 have ad1:=h
 clear h
 refine C1 (DY x.bY _ (by omega)) ?_
 refine S0 (fun hb h=>?_) fun hb h=>?_
 ·exact ay (aC (fun e=>h (by rw[e]))).symm
 have NR:=h
 clear h
 refine S0 (fun hb h=>?_) fun hb h=>?_
 ·exact ay (aC (fun e=>h (by rw[e]))).symm
 have Yt:=h
 clear h
 refine S0 (fun hb h=>?_) fun hb h=>?_
 ·exact ay (aC (fun e=>h (by rw[e]))).symm
 have VO:=h
 clear h
 refine C1 (q8 x.bQ _ (by omega)) ?_
 refine S0 (fun hb h=>?_) fun hb h=>?_
 ·exact ay (aC (fun e=>h (by rw[e]))).symm
 have Ny:=h
 clear h
 refine C1 (NP x.aL _ (by omega)) ?_
 refine S0 (fun hb h=>?_) fun hb h=>?_
 ·exact ay (aC (fun e=>h (by rw[e]))).symm
 have Yu:=h
 clear h
 exact ay (bq (aQ.ext' Cb uw ad1 NR Yt VO Ny Yu)).symm
theorem I4(xs:List aQ):∀ys:List aQ,xs.length+aI (xs.map aQ.enc)≤1048576→aD Tryz.prog 67 [.c (.d (.sl (xs.map aQ.enc))),.c (.d (.sl (ys.map aQ.enc)))] (.c (.d (.b (dec (xs=ys))))):=by
 intro ys hsz S
 refine aB (rs:=[.tmp 4]) Tryz.checked.mixed Tryz.func67 Tryz.ntmps67 rfl rfl rfl rfl rfl ?_
 refine W1 ?_
 refine S0 (fun hb h=>?_) fun hb h=>?_
 ·exact ay (aC (fun e=>h (by rw[e]))).symm
 have hl:xs.length=ys.length:=by omega
 refine aR (ι:=Nat) Tryz.checked.mixed rfl [0,1,5] (fun y=>[.c (.d (.sl (xs.map aQ.enc))),.c (.d (.sl (ys.map aQ.enc))),.c (.d (.i .i64 y))]) (fun y=>[]::S)
  (fun i=>i≤xs.length∧∀j,j<i→xs[j]? =ys[j]?) (fun y=>xs.length-y) 0 rfl rfl ⟨Nat.zero_le _,fun j h=>by omega⟩ ?_
 rintro i ⟨p1,p2⟩
 refine W1 ?_
 refine S0 (fun hb h=>?_) fun hb h=>?_
 ·have hi:i<xs.length:=by omega
  have hi':i<ys.length:=by omega
  have hx:xs[i].sz≤aI (xs.map aQ.enc):=bD (List.mem_map_of_mem (List.getElem_mem hi))
  refine W3 ?_
  refine C1 (KP xs[i] ys[i] (by omega)) ?_
  refine S0 (fun hb h=>?_) fun hb h=>?_
  ·exact ay (aC (fun e=>h (by simp only[e]))).symm
  refine bF (i+1) (by omega) rfl rfl ⟨by omega,fun j hj=> ?_⟩
  by_cases e:j=i
  ·subst e
   rw[List.getElem?_eq_getElem hi,List.getElem?_eq_getElem hi',h]
  ·exact p2 j (by omega)
 ·have hi:i=xs.length:=by omega
  refine ay (bq (List.ext_getElem? fun j=> ?_)).symm
  by_cases hj:j<i
  ·exact p2 j hj
  ·rw[List.getElem?_eq_none (by omega),List.getElem?_eq_none (by omega)]
end Go.Proofs.YtcfhnaohbaplhaaGreatDoor
namespace Go.Proofs.YtcfhnaohbaplhaaGreatDoor
open Go Go.Ab
theorem Tf(x:bG):∀left:Int,0≤left→left≤1048576→kK x.enc→aD Tryz.prog 300 [x.v,.c (.d (.i .i64 left))] (.c (.d (.i .i64 (cB left x.sz)))):=by
 intro left h0 h1 hf S
 simp only[bG.aH,List.cons_append,List.nil_append,iG,iw,iq,and_true] at hf
 obtain⟨fName,fType⟩:=hf
 have hz:x.sz=x.fName.length+(x.fType.sz):=by
  simp only[bG.sz,bG.aH,bH,bf,D.sz,List.length_map,Nat.add_zero,Nat.zero_add,ah.cZ]<;>omega
 refine aB (rs:=[.tmp 4]) Tryz.checked.mixed Tryz.func300 Tryz.ntmps300 rfl rfl rfl rfl rfl ?_
 rw[hz]
 have xu:=pK fName
 refine W1 ?_
 refine S0 (fun hb h=>?_) fun hb h=>?_
 ·exact int_eq (bT (by omega)).symm
 refine C1 (qY x.fType _ (by omega) (by omega) fType) ?_
 refine S0 (fun hb h=>?_) fun hb h=>?_
 ·have h':=dA h
  exact int_eq (bT (by omega)).symm
 have hType:=dO h
 simp only[hType.1]
 refine int_eq ?_
 rw[fq (by omega)]
 omega
theorem Pz(xs:List bG):∀left:Int,0≤left→left≤1048576→(D.sl (xs.map bG.enc)).Fit→aD Tryz.prog 216 [.c (.d (.sl (xs.map bG.enc))),.c (.d (.i .i64 left))] (.c (.d (.i .i64 (cB left (xs.length+aI (xs.map bG.enc)))))):=by
 intro left h0 h1 hf S
 obtain⟨hf1,hf2⟩:=nY hf
 rw[List.length_map] at hf1
 refine aB (rs:=[.tmp 4]) Tryz.checked.mixed Tryz.func216 Tryz.ntmps216 rfl rfl rfl rfl rfl ?_
 refine W1 ?_
 refine S0 (fun hb h=>?_) fun hb h=>?_
 ·exact int_eq (bT (by omega)).symm
 refine aR (ι:=Nat×Int) Tryz.checked.mixed rfl [0,1,5] (fun y=>[.c (.d (.sl (xs.map bG.enc))),.c (.d (.i .i64 y.2)),.c (.d (.i .i64 y.1))]) (fun _=>[]::S)
  (fun y=>y.1≤xs.length∧0≤y.2∧y.2≤1048576∧cB y.2 (aI ((xs.map bG.enc).drop y.1))=cB left (xs.length+aI (xs.map bG.enc))) (fun y=>xs.length-y.1) (0,left-xs.length) rfl rfl ⟨by omega,by omega,by omega,?_⟩ ?_
 ·unfold cB
  rw[List.drop_zero]
  split<;>split<;>omega
 rintro⟨i,l⟩ ⟨p1,p2,p3,p4⟩
 simp only at p1 p2 p3 p4
 refine W1 ?_
 refine S0 (fun hb h=>?_) fun hb h=>?_
 ·have hi:i<xs.length:=by omega
  rw[List.drop_eq_getElem_cons (by rw[List.length_map];exact hi),aI,List.getElem_map,bG.cZ] at p4
  refine W3 ?_
  refine C1 (Tf xs[i] _ (by omega) (by omega) (hf2 _ (List.mem_map_of_mem (List.getElem_mem hi)))) ?_
  refine S0 (fun hb h=>?_) fun hb h=>?_
  ·have h':=dA h
   rw[←p4,bT (by omega)]
  ·have h':=dO h
   refine bF (i+1,cB l _) (by simp only;omega) rfl rfl ⟨by simp only;omega,by simp only;omega,by simp only;omega,?_⟩
   simp only
   rw[←p4,h'.1]
   unfold cB
   split<;>split<;>omega
 ·have hi:i=xs.length:=by omega
  rw[hi,List.drop_of_length_le (by simp),aI,fq (by omega)] at p4
  rw[←p4]
  refine int_eq ?_
  omega
theorem Tg(x:bG):x.sz≤1048576→aD Tryz.prog 312 [x.v] x.v:=by
 intro hsz S
 simp only[bG.sz,bG.aH,bH,bf,D.sz,List.length_map,ah.cZ] at hsz
 refine aB (rs:=[.cell 2 267]) Tryz.checked.mixed Tryz.func312 Tryz.ntmps312 rfl rfl rfl rfl rfl ?_
 refine W1 ?_
 exact C3 (qZ x.fType (by omega))
theorem PD(xs:List bG):xs.length+aI (xs.map bG.enc)≤1048576→aD Tryz.prog 227 [.c (.d (.sl (xs.map bG.enc)))] (.c (.d (.sl (xs.map bG.enc)))):=by
 intro hsz S
 refine aB (rs:=[.tmp 2]) Tryz.checked.mixed Tryz.func227 Tryz.ntmps227 rfl rfl rfl rfl rfl ?_
 refine W1 ?_
 refine W3 ?_
 refine aR (ι:=Nat×List (List D)) Tryz.checked.mixed rfl [0,3,4] (fun y=>[.c (.d (.sl (xs.map bG.enc))),.c (.jd (0,0)),.c (.d (.i .i64 y.1))]) (fun y=>[.eT 4 y.2]::S)
  (fun y=>y.1≤xs.length∧fI 4 y.1 y.2 (xs.map bG.enc)) (fun y=>xs.length-y.1) (0,_) rfl rfl ⟨Nat.zero_le _,fI.start (by simp) rfl⟩ ?_
 rintro⟨i,R⟩ ⟨p1,p2⟩
 simp only at p1 p2
 refine W1 ?_
 refine S0 (fun hb h=>?_) fun hb h=>?_
 ·have hi:i<xs.length:=by omega
  have hx:xs[i].sz≤aI (xs.map bG.enc):=bD (List.mem_map_of_mem (List.getElem_mem hi))
  refine W3 ?_
  refine C1 (Tg xs[i] (by omega)) ?_
  have hR:=p2.1
  rw[List.length_map] at hR
  refine W3 ?_
  refine bF (i+1,_) (by simp only;omega) rfl rfl ⟨by simp only;omega,p2.step (by simp[hi,bG.aH,ah.aH]) rfl⟩
 ·have hi:i=xs.length:=by omega
  rw[p2.done (by rw[List.length_map];omega)]
theorem Ti(x:bG):∀y:bG,x.sz≤1048576→aD Tryz.prog 317 [x.v,y.v] (.c (.d (.b (dec (x=y))))):=by
 intro y hsz S
 simp only[bG.sz,bG.aH,bH,bf,D.sz,List.length_map,ah.cZ] at hsz
 refine aB (rs:=[.tmp 4]) Tryz.checked.mixed Tryz.func317 Tryz.ntmps317 rfl rfl rfl rfl rfl ?_
 refine W1 ?_
 refine S0 (fun hb h=>?_) fun hb h=>?_
 ·exact ay (aC (fun e=>h (by rw[e]))).symm
 have ni:=h
 clear h
 refine C1 (q8 x.fType _ (by omega)) ?_
 refine S0 (fun hb h=>?_) fun hb h=>?_
 ·exact ay (aC (fun e=>h (by rw[e]))).symm
 have eType:=h
 clear h
 exact ay (bq (bG.ext' ni eType)).symm
theorem PE(xs:List bG):∀ys:List bG,xs.length+aI (xs.map bG.enc)≤1048576→aD Tryz.prog 234 [.c (.d (.sl (xs.map bG.enc))),.c (.d (.sl (ys.map bG.enc)))] (.c (.d (.b (dec (xs=ys))))):=by
 intro ys hsz S
 refine aB (rs:=[.tmp 4]) Tryz.checked.mixed Tryz.func234 Tryz.ntmps234 rfl rfl rfl rfl rfl ?_
 refine W1 ?_
 refine S0 (fun hb h=>?_) fun hb h=>?_
 ·exact ay (aC (fun e=>h (by rw[e]))).symm
 have hl:xs.length=ys.length:=by omega
 refine aR (ι:=Nat) Tryz.checked.mixed rfl [0,1,5] (fun y=>[.c (.d (.sl (xs.map bG.enc))),.c (.d (.sl (ys.map bG.enc))),.c (.d (.i .i64 y))]) (fun y=>[]::S)
  (fun i=>i≤xs.length∧∀j,j<i→xs[j]? =ys[j]?) (fun y=>xs.length-y) 0 rfl rfl ⟨Nat.zero_le _,fun j h=>by omega⟩ ?_
 rintro i ⟨p1,p2⟩
 refine W1 ?_
 refine S0 (fun hb h=>?_) fun hb h=>?_
 ·have hi:i<xs.length:=by omega
  have hi':i<ys.length:=by omega
  have hx:xs[i].sz≤aI (xs.map bG.enc):=bD (List.mem_map_of_mem (List.getElem_mem hi))
  refine W3 ?_
  refine C1 (Ti xs[i] ys[i] (by omega)) ?_
  refine S0 (fun hb h=>?_) fun hb h=>?_
  ·exact ay (aC (fun e=>h (by simp only[e]))).symm
  refine bF (i+1) (by omega) rfl rfl ⟨by omega,fun j hj=> ?_⟩
  by_cases e:j=i
  ·subst e
   rw[List.getElem?_eq_getElem hi,List.getElem?_eq_getElem hi',h]
  ·exact p2 j (by omega)
 ·have hi:i=xs.length:=by omega
  refine ay (bq (List.ext_getElem? fun j=> ?_)).symm
  by_cases hj:j<i
  ·exact p2 j hj
  ·rw[List.getElem?_eq_none (by omega),List.getElem?_eq_none (by omega)]
end Go.Proofs.YtcfhnaohbaplhaaGreatDoor
namespace Go.Proofs.YtcfhnaohbaplhaaGreatDoor
open Go Go.Ab
theorem KQ(x:aS):∀left:Int,0≤left→left≤1048576→kK x.enc→aD Tryz.prog 126 [x.v,.c (.d (.i .i64 left))] (.c (.d (.i .i64 (cB left x.sz)))):=by
 intro left h0 h1 hf S
 simp only[aS.aH,List.cons_append,List.nil_append,iG,iw,iq,and_true] at hf
 obtain⟨fName,aF,bY,aZ,bU,fBody⟩:=hf
 have hz:x.sz=x.fName.length+((x.aF.length+aI (x.aF.map encS))+((x.bY.length+aI (x.bY.map bA.enc))+((x.aZ.length+aI (x.aZ.map bG.enc))+(x.bU.sz+(x.fBody.sz))))):=by
  simp only[aS.sz,aS.aH,bH,bf,D.sz,List.length_map,Nat.add_zero,Nat.zero_add,au.cZ,ah.cZ]<;>omega
 refine aB (rs:=[.tmp 4]) Tryz.checked.mixed Tryz.func126 Tryz.ntmps126 rfl rfl rfl rfl rfl ?_
 rw[hz]
 have xu:=pK fName
 refine W1 ?_
 refine S0 (fun hb h=>?_) fun hb h=>?_
 ·exact int_eq (bT (by omega)).symm
 refine C1 (mo x.aF _ (by omega) (by omega) aF) ?_
 refine S0 (fun hb h=>?_) fun hb h=>?_
 ·have h':=dA h
  exact int_eq (bT (by omega)).symm
 have hVars:=dO h
 simp only[hVars.1]
 refine C1 (DW x.bY _ (by omega) (by omega) bY) ?_
 refine S0 (fun hb h=>?_) fun hb h=>?_
 ·have h':=dA h
  exact int_eq (bT (by omega)).symm
 have NQ:=dO h
 simp only[NQ.1]
 refine C1 (Pz x.aZ _ (by omega) (by omega) aZ) ?_
 refine S0 (fun hb h=>?_) fun hb h=>?_
 ·have h':=dA h
  exact int_eq (bT (by omega)).symm
 have IC:=dO h
 simp only[IC.1]
 refine C1 (qY x.bU _ (by omega) (by omega) bU) ?_
 refine S0 (fun hb h=>?_) fun hb h=>?_
 ·have h':=dA h
  exact int_eq (bT (by omega)).symm
 have IE:=dO h
 simp only[IE.1]
 refine C1 (Ce x.fBody _ (by omega) (by omega) fBody) ?_
 refine S0 (fun hb h=>?_) fun hb h=>?_
 ·have h':=dA h
  exact int_eq (bT (by omega)).symm
 have AJ:=dO h
 simp only[AJ.1]
 refine int_eq ?_
 rw[fq (by omega)]
 omega
theorem I5(xs:List aS):∀left:Int,0≤left→left≤1048576→(D.sl (xs.map aS.enc)).Fit→aD Tryz.prog 56 [.c (.d (.sl (xs.map aS.enc))),.c (.d (.i .i64 left))] (.c (.d (.i .i64 (cB left (xs.length+aI (xs.map aS.enc)))))):=by
 intro left h0 h1 hf S
 obtain⟨hf1,hf2⟩:=nY hf
 rw[List.length_map] at hf1
 refine aB (rs:=[.tmp 4]) Tryz.checked.mixed Tryz.func56 Tryz.ntmps56 rfl rfl rfl rfl rfl ?_
 refine W1 ?_
 refine S0 (fun hb h=>?_) fun hb h=>?_
 ·exact int_eq (bT (by omega)).symm
 refine aR (ι:=Nat×Int) Tryz.checked.mixed rfl [0,1,5] (fun y=>[.c (.d (.sl (xs.map aS.enc))),.c (.d (.i .i64 y.2)),.c (.d (.i .i64 y.1))]) (fun _=>[]::S)
  (fun y=>y.1≤xs.length∧0≤y.2∧y.2≤1048576∧cB y.2 (aI ((xs.map aS.enc).drop y.1))=cB left (xs.length+aI (xs.map aS.enc))) (fun y=>xs.length-y.1) (0,left-xs.length) rfl rfl ⟨by omega,by omega,by omega,?_⟩ ?_
 ·unfold cB
  rw[List.drop_zero]
  split<;>split<;>omega
 rintro⟨i,l⟩ ⟨p1,p2,p3,p4⟩
 simp only at p1 p2 p3 p4
 refine W1 ?_
 refine S0 (fun hb h=>?_) fun hb h=>?_
 ·have hi:i<xs.length:=by omega
  rw[List.drop_eq_getElem_cons (by rw[List.length_map];exact hi),aI,List.getElem_map,aS.cZ] at p4
  refine W3 ?_
  refine C1 (KQ xs[i] _ (by omega) (by omega) (hf2 _ (List.mem_map_of_mem (List.getElem_mem hi)))) ?_
  refine S0 (fun hb h=>?_) fun hb h=>?_
  ·have h':=dA h
   rw[←p4,bT (by omega)]
  ·have h':=dO h
   refine bF (i+1,cB l _) (by simp only;omega) rfl rfl ⟨by simp only;omega,by simp only;omega,by simp only;omega,?_⟩
   simp only
   rw[←p4,h'.1]
   unfold cB
   split<;>split<;>omega
 ·have hi:i=xs.length:=by omega
  rw[hi,List.drop_of_length_le (by simp),aI,fq (by omega)] at p4
  rw[←p4]
  refine int_eq ?_
  omega
theorem KR(x:aS):x.sz≤1048576→aD Tryz.prog 138 [x.v] x.v:=by
 intro hsz S
 simp only[aS.sz,aS.aH,bH,bf,D.sz,List.length_map,au.cZ,ah.cZ] at hsz
 refine aB (rs:=[.cell 2 197]) Tryz.checked.mixed Tryz.func138 Tryz.ntmps138 rfl rfl rfl rfl rfl ?_
 refine W1 ?_
 refine C1 (mq x.aF (by omega)) ?_
 refine C1 (DX x.bY (by omega)) ?_
 refine C1 (PD x.aZ (by omega)) ?_
 refine C1 (qZ x.bU (by omega)) ?_
 exact C3 (Cg x.fBody (by omega))
theorem I6(xs:List aS):xs.length+aI (xs.map aS.enc)≤1048576→aD Tryz.prog 62 [.c (.d (.sl (xs.map aS.enc)))] (.c (.d (.sl (xs.map aS.enc)))):=by
 intro hsz S
 refine aB (rs:=[.tmp 2]) Tryz.checked.mixed Tryz.func62 Tryz.ntmps62 rfl rfl rfl rfl rfl ?_
 refine W1 ?_
 refine W3 ?_
 refine aR (ι:=Nat×List (List D)) Tryz.checked.mixed rfl [0,3,4] (fun y=>[.c (.d (.sl (xs.map aS.enc))),.c (.jd (0,0)),.c (.d (.i .i64 y.1))]) (fun y=>[.eT 16 y.2]::S)
  (fun y=>y.1≤xs.length∧fI 16 y.1 y.2 (xs.map aS.enc)) (fun y=>xs.length-y.1) (0,_) rfl rfl ⟨Nat.zero_le _,fI.start (by simp) rfl⟩ ?_
 rintro⟨i,R⟩ ⟨p1,p2⟩
 simp only at p1 p2
 refine W1 ?_
 refine S0 (fun hb h=>?_) fun hb h=>?_
 ·have hi:i<xs.length:=by omega
  have hx:xs[i].sz≤aI (xs.map aS.enc):=bD (List.mem_map_of_mem (List.getElem_mem hi))
  refine W3 ?_
  refine C1 (KR xs[i] (by omega)) ?_
  have hR:=p2.1
  rw[List.length_map] at hR
  refine W3 ?_
  refine bF (i+1,_) (by simp only;omega) rfl rfl ⟨by simp only;omega,p2.step (by simp[hi,au.aH,aS.aH,ah.aH]) rfl⟩
 ·have hi:i=xs.length:=by omega
  rw[p2.done (by rw[List.length_map];omega)]
theorem KT(x:aS):∀y:aS,x.sz≤1048576→aD Tryz.prog 149 [x.v,y.v] (.c (.d (.b (dec (x=y))))):=by
 intro y hsz S
 simp only[aS.sz,aS.aH,bH,bf,D.sz,List.length_map,au.cZ,ah.cZ] at hsz
 refine aB (rs:=[.tmp 4]) Tryz.checked.mixed Tryz.func149 Tryz.ntmps149 rfl rfl rfl rfl rfl ?_
 refine W1 ?_
 refine S0 (fun hb h=>?_) fun hb h=>?_
 ·exact ay (aC (fun e=>h (by rw[e]))).symm
 have ni:=h
 clear h
 refine C1 (mD x.aF _ (by omega)) ?_
 refine S0 (fun hb h=>?_) fun hb h=>?_
 ·exact ay (aC (fun e=>h (by rw[e]))).symm
 have uw:=h
 clear h
 refine C1 (DY x.bY _ (by omega)) ?_
 refine S0 (fun hb h=>?_) fun hb h=>?_
 ·exact ay (aC (fun e=>h (by rw[e]))).symm
 have NR:=h
 clear h
 refine C1 (PE x.aZ _ (by omega)) ?_
 refine S0 (fun hb h=>?_) fun hb h=>?_
 ·exact ay (aC (fun e=>h (by rw[e]))).symm
 have IJ:=h
 clear h
 refine C1 (q8 x.bU _ (by omega)) ?_
 refine S0 (fun hb h=>?_) fun hb h=>?_
 ·exact ay (aC (fun e=>h (by rw[e]))).symm
 have IK:=h
 clear h
 refine C1 (Ch x.fBody _ (by omega)) ?_
 refine S0 (fun hb h=>?_) fun hb h=>?_
 ·exact ay (aC (fun e=>h (by rw[e]))).symm
 have AL:=h
 clear h
 exact ay (bq (aS.ext' ni uw NR IJ IK AL)).symm
theorem I7(xs:List aS):∀ys:List aS,xs.length+aI (xs.map aS.enc)≤1048576→aD Tryz.prog 68 [.c (.d (.sl (xs.map aS.enc))),.c (.d (.sl (ys.map aS.enc)))] (.c (.d (.b (dec (xs=ys))))):=by
 intro ys hsz S
 refine aB (rs:=[.tmp 4]) Tryz.checked.mixed Tryz.func68 Tryz.ntmps68 rfl rfl rfl rfl rfl ?_
 refine W1 ?_
 refine S0 (fun hb h=>?_) fun hb h=>?_
 ·exact ay (aC (fun e=>h (by rw[e]))).symm
 have hl:xs.length=ys.length:=by omega
 refine aR (ι:=Nat) Tryz.checked.mixed rfl [0,1,5] (fun y=>[.c (.d (.sl (xs.map aS.enc))),.c (.d (.sl (ys.map aS.enc))),.c (.d (.i .i64 y))]) (fun y=>[]::S)
  (fun i=>i≤xs.length∧∀j,j<i→xs[j]? =ys[j]?) (fun y=>xs.length-y) 0 rfl rfl ⟨Nat.zero_le _,fun j h=>by omega⟩ ?_
 rintro i ⟨p1,p2⟩
 refine W1 ?_
 refine S0 (fun hb h=>?_) fun hb h=>?_
 ·have hi:i<xs.length:=by omega
  have hi':i<ys.length:=by omega
  have hx:xs[i].sz≤aI (xs.map aS.enc):=bD (List.mem_map_of_mem (List.getElem_mem hi))
  refine W3 ?_
  refine C1 (KT xs[i] ys[i] (by omega)) ?_
  refine S0 (fun hb h=>?_) fun hb h=>?_
  ·exact ay (aC (fun e=>h (by simp only[e]))).symm
  refine bF (i+1) (by omega) rfl rfl ⟨by omega,fun j hj=> ?_⟩
  by_cases e:j=i
  ·subst e
   rw[List.getElem?_eq_getElem hi,List.getElem?_eq_getElem hi',h]
  ·exact p2 j (by omega)
 ·have hi:i=xs.length:=by omega
  refine ay (bq (List.ext_getElem? fun j=> ?_)).symm
  by_cases hj:j<i
  ·exact p2 j hj
  ·rw[List.getElem?_eq_none (by omega),List.getElem?_eq_none (by omega)]
end Go.Proofs.YtcfhnaohbaplhaaGreatDoor
namespace Go.Ab
def oV(f:aS):List (List UInt8):=f.aZ.map bG.fName
def He(f:aS):List ah:=f.aZ.map bG.fType
noncomputable def jE(f:aS):Bool:=
 validName f.fName&&(dec (f.aF.length≤3)&&(gQ f.aF&&(mR f.aF f.bY&&(dec (f.aZ.length≤5)&&(jN f.aF (He f)&&(fF f.aF f.bU&&nM (oV f) f.fBody))))))
theorem aS.sum(x:aS):x.fName.length+(x.aF.length+aI (x.aF.map encS))+(x.bY.length+aI (x.bY.map bA.enc))+(x.aZ.length+aI (x.aZ.map bG.enc))+x.bU.sz+x.fBody.sz≤x.sz:=by
 simp only[aS.sz,aS.aH,bH,bf,D.sz,List.length_map,ah.cZ,au.cZ]
 omega
theorem bG.sum(x:bG):x.fName.length+x.fType.sz≤x.sz:=by
 simp only[bG.sz,bG.aH,bH,bf,D.sz,List.length_map,ah.cZ]
 omega
theorem Dn{xs:List bG}{t:bG}(h:t∈xs):t.sz≤aI (xs.map bG.enc):=bD (List.mem_map_of_mem h)
end Go.Ab
namespace Go.Proofs.YtcfhnaohbaplhaaGreatDoor
open Go Go.Ab
theorem KU(ps:List bG)(hl:ps.length≤1073741823):aD Tryz.prog 269 [.c (.d (.sl (ps.map bG.enc)))] (.c (.d (.sl ((ps.map bG.fName).map encS)))):=fun S=>by
 refine aB (rs:=[.tmp 2]) Tryz.checked.mixed Tryz.func269 Tryz.ntmps269 rfl rfl rfl rfl rfl ?_
 refine W1 ?_
 refine W3 ?_
 refine l9 3 1 [] rfl (by simp) ?_
 refine aR (ι:=Nat×List (List UInt8)) Tryz.checked.mixed rfl [3,7,8,9] (fun y=>[.c (.bI (0,0) (y.2.map encS)),.c (.d (.sl (ps.map bG.enc))),.c (.d (.i .i64 ps.length)),.c (.d (.i .i64 y.1))]) (fun y=>[.tok 1 (y.2.map encS)]::S)
  (fun y=>y.1≤ps.length∧y.2=(ps.map bG.fName).take y.1) (fun y=>ps.length-y.1) (0,[]) rfl rfl ⟨Nat.zero_le _,rfl⟩ ?_
 rintro⟨i,names⟩ ⟨p1,p2⟩
 simp only at p1 p2
 have pl:names.length≤ps.length:=by rw[p2];simp;omega
 refine W1 ?_
 refine S0 (fun hb h=>?_) fun hb h=>?_
 ·have hi:i<ps.length:=by omega
  refine W3 ?_
  rw[show List.map encS names++[[D.s ps[i].fName]]=List.map encS (names++[ps[i].fName]) by simp[encS]]
  exact bX 1 (by decide) (i+1,names++[ps[i].fName]) (by simp only;omega) rfl rfl rfl rfl ⟨by simp only;omega,by simp only;rw[p2,gI (by simpa using hi)];simp⟩
 ·rw[List.take_of_length_le (by simp;omega)] at p2
  rw[p2]
theorem KV(ps:List bG)(hl:ps.length≤1073741823):aD Tryz.prog 268 [.c (.d (.sl (ps.map bG.enc)))] (.c (.d (.sl ((ps.map bG.fType).map ah.enc)))):=fun S=>by
 refine aB (rs:=[.tmp 2]) Tryz.checked.mixed Tryz.func268 Tryz.ntmps268 rfl rfl rfl rfl rfl ?_
 refine W1 ?_
 refine W3 ?_
 refine l9 3 3 [] rfl (by simp) ?_
 refine aR (ι:=Nat×List ah) Tryz.checked.mixed rfl [3,7,8,9] (fun y=>[.c (.bI (0,0) (y.2.map ah.enc)),.c (.d (.sl (ps.map bG.enc))),.c (.d (.i .i64 ps.length)),.c (.d (.i .i64 y.1))]) (fun y=>[.tok 3 (y.2.map ah.enc)]::S)
  (fun y=>y.1≤ps.length∧y.2=(ps.map bG.fType).take y.1) (fun y=>ps.length-y.1) (0,[]) rfl rfl ⟨Nat.zero_le _,rfl⟩ ?_
 rintro⟨i,names⟩ ⟨p1,p2⟩
 simp only at p1 p2
 have pl:names.length≤ps.length:=by rw[p2];simp;omega
 refine W1 ?_
 refine S0 (fun hb h=>?_) fun hb h=>?_
 ·have hi:i<ps.length:=by omega
  refine W3 ?_
  rw[show List.map ah.enc names++[[D.i .i64 ps[i].fType.aV,D.s ps[i].fType.fName,D.sl (ps[i].fType.fArgs.map ah.enc)]]=List.map ah.enc (names++[ps[i].fType]) by simp[ah.aH]]
  exact bX 1 (by decide) (i+1,names++[ps[i].fType]) (by simp only;omega) rfl rfl rfl rfl ⟨by simp only;omega,by simp only;rw[p2,gI (by simpa using hi)];simp⟩
 ·rw[List.take_of_length_le (by simp;omega)] at p2
  rw[p2]
theorem I8(f:aS)(hsz:f.sz≤4194304):aD Tryz.prog 175 [f.v] (.c (.d (.b (jE f)))):=fun S=>by
 have hs:=aS.sum f
 have hV:∀s∈f.aF,s.length≤4194304:=fun s h=>by have:=nZ h;omega
 have hW:∀b∈f.bY,b.sz≤4194304:=fun b h=>by have:=mM h;omega
 have hP:∀p∈f.aZ,p.sz≤4194304:=fun m h=>by have:=Dn h;omega
 have hpt:∀t∈f.aZ.map bG.fType,t.sz≤4194304:=fun t h=>by
  obtain⟨p,hp,e⟩:=List.mem_map.1 h
  have:=hP p hp
  have:=bG.sum p
  rw[←e];omega
 have hpn:∀s∈f.aZ.map bG.fName,s.length≤4194304:=fun t h=>by
  obtain⟨p,hp,e⟩:=List.mem_map.1 h
  have:=hP p hp
  have:=bG.sum p
  rw[←e];omega
 have hpl:(f.aZ.map bG.fName).length=f.aZ.length:=by simp
 have hpl':(f.aZ.map bG.fType).length=f.aZ.length:=by simp
 refine aB (rs:=[.tmp 2]) Tryz.checked.mixed Tryz.func175 Tryz.ntmps175 rfl rfl rfl rfl rfl ?_
 refine W1 ?_
 repeat' (first
  |refine S0 (fun hb h=>?_) fun hb h=>?_
  |((with_reducible show dX _ _ 168 _ _ _ _);refine bN (fT f.fName (by omega)) ?_;refine W1 ?_)
  |((with_reducible show dX _ _ 169 _ _ _ _);refine bN (lX f.aF (by omega) hV) ?_;refine W1 ?_)
  |((with_reducible show dX _ _ 265 _ _ _ _);refine bN (CK f.bY f.aF (by omega) hW (by omega)) ?_;refine W1 ?_)
  |((with_reducible show dX _ _ 268 _ _ _ _);refine bN (KV f.aZ (by omega)) ?_;refine W1 ?_)
  |((with_reducible show dX _ _ 260 _ _ _ _);refine bN (um (f.aZ.map bG.fType) f.aF (by omega) hpt (by omega)) ?_;refine W1 ?_)
  |((with_reducible show dX _ _ 261 _ _ _ _);refine bN (qg f.bU f.aF (by omega) (by omega)) ?_;refine W1 ?_)
  |((with_reducible show dX _ _ 269 _ _ _ _);refine bN (KU f.aZ (by omega)) ?_;refine W1 ?_)
  |((with_reducible show dX _ _ 267 _ _ _ _);refine bN (CJ (f.aZ.map bG.fName) f.fBody (by omega) hpn (by omega)) ?_;refine W1 ?_)
  |(refine ay ?_;unfold jE He oV;grind [iO,iK,bq,aC]))
theorem vv(f:aS)(hsz:f.sz≤4194304):aD Tryz.prog 222 [f.v] (.c (.d (.b (jE f)))):=fun S=>by
 have hs:=aS.sum f
 have hV:∀s∈f.aF,s.length≤4194304:=fun s h=>by have:=nZ h;omega
 have hW:∀b∈f.bY,b.sz≤4194304:=fun b h=>by have:=mM h;omega
 have hP:∀p∈f.aZ,p.sz≤4194304:=fun m h=>by have:=Dn h;omega
 have hpn:∀s∈oV f,s.length≤4194304:=fun t h=>by
  obtain⟨p,hp,e⟩:=List.mem_map.1 h
  have:=hP p hp
  have:=bG.sum p
  rw[←e];omega
 have hnl:(oV f).length=f.aZ.length:=by simp[oV]
 have bad:∀i,∀hi:i<f.aZ.length,fF f.aF f.aZ[i].fType=false→V.c (.d (.b false))=V.c (.d (.b (jE f))):=fun i hi h=>ay (by
  have:jN f.aF (He f)=false:=Bool.eq_false_iff.2 fun hx=>by
   have:=List.all_eq_true.1 hx f.aZ[i].fType (List.mem_map_of_mem (List.getElem_mem hi))
   rw[h] at this;cases this
  unfold jE
  rw[this];simp)
 refine aB (rs:=[.tmp 2]) Tryz.checked.mixed Tryz.func222 Tryz.ntmps222 rfl rfl rfl rfl rfl ?_
 refine W1 ?_
 refine W3 ?_
 refine l9 3 1 [] rfl (by simp) ?_
 refine aR (ι:=Nat×List (List UInt8)) Tryz.checked.mixed rfl [1,3,4] (fun y=>[.c (.ptr (0,0) 0),.c (.bI (0,1) (y.2.map encS)),.c (.d (.i .i64 y.1))]) (fun y=>[.box (f.enc.map .d),.tok 1 (y.2.map encS)]::S)
  (fun y=>y.1≤f.aZ.length∧y.2=(oV f).take y.1∧∀j,∀hj:j<f.aZ.length,j<y.1→fF f.aF f.aZ[j].fType=true) (fun y=>f.aZ.length-y.1) (0,[]) rfl ?_ ⟨Nat.zero_le _,rfl,fun j _ h=>by simp only at h;omega⟩ ?_
 ·exact Z1
 rintro⟨i,names⟩ ⟨p1,p2,p3⟩
 simp only at p1 p2 p3
 have pl:names.length≤f.aZ.length:=by rw[p2];simp[oV];omega
 refine W1 ?_
 refine S0 (fun hb h=>?_) fun hb h=>?_
 ·have hi:i<f.aZ.length:=by omega
  have hp:=hP _ (List.getElem_mem hi)
  have hps:=bG.sum f.aZ[i]
  refine W3 ?_
  refine C2 (pR f.aZ[i].fType f.aF (by omega) (by omega)) ?_
  refine S0 (fun hb h=>?_) fun hb h=>?_
  ·exact bad i hi h
  have k3:=h
  refine W3 ?_
  rw[show List.map encS names++[[D.s f.aZ[i].fName]]=List.map encS (names++[f.aZ[i].fName]) by simp[encS]]
  exact bF (i+1,names++[f.aZ[i].fName]) (by simp only;omega) rfl rfl ⟨by simp only;omega,by simp only;rw[p2,gI (by simpa [oV] using hi)];simp[oV],fun j hj hji=>by
   simp only at hji
   by_cases e:j=i
   ·subst e;exact k3
   ·exact p3 j hj (by omega)⟩
 have hi:i=f.aZ.length:=by omega
 have hn:names=oV f:=by rw[p2,List.take_of_length_le (by simp[oV];omega)]
 have hall:jN f.aF (He f)=true:=List.all_eq_true.2 fun c hc=>by
  obtain⟨p,hp,e⟩:=List.mem_map.1 hc
  obtain⟨j,hj,e'⟩:=List.getElem_of_mem hp
  rw[←e,←e'];exact p3 j hj (by omega)
 clear p2 p3 bad
 subst hn
 repeat' (first
  |refine S0 (fun hb h=>?_) fun hb h=>?_
  |((with_reducible show dX _ _ 159 _ _ _ _);refine bN (fU f.fName (by omega)) ?_;refine W1 ?_)
  |((with_reducible show dX _ _ 160 _ _ _ _);refine bN (jX f.aF 3 (by omega) hV) ?_;refine W1 ?_)
  |((with_reducible show dX _ _ 305 _ _ _ _);refine bN (Ec f.bY f.aF (by omega) hW (by omega)) ?_;refine W1 ?_)
  |((with_reducible show dX _ _ 160 _ _ _ _);refine bN (jX (oV f) 5 (by omega) hpn) ?_;refine W1 ?_)
  |((with_reducible show dX _ _ 303 _ _ _ _);refine bN (pR f.bU f.aF (by omega) (by omega)) ?_;refine W1 ?_)
  |((with_reducible show dX _ _ 307 _ _ _ _);refine bN (A8 (oV f) f.fBody (by omega) (by omega)) ?_;refine W1 ?_)
  |(refine ay ?_;unfold jE nM;grind [iO,iK,bq,aC]))
end Go.Proofs.YtcfhnaohbaplhaaGreatDoor
namespace Go.Ab
def yE(n:Nat)(s:St):St:=match s.st with
 |(.seed _::own)::Ω=>⟨s.tm,(.seed n::own)::Ω⟩
 |_=>s
theorem zT{N:Nat}(n:Nat)(s:St):gJ N s (yE n s):=by
 obtain⟨tm,st⟩:=s
 unfold yE
 split
 ·rename_i h;simp only at h;subst h;exact xV n
 ·exact gJ.refl _ _
theorem PG{n m:Nat}{tm:List (Nat×V)}{own:List Obj}{Ω:Store}:yE n ⟨tm,(.seed m::own)::Ω⟩=⟨tm,(.seed n::own)::Ω⟩:=rfl
def Zd(j p n:Nat)(s:St):St:=yE n (K9 j p s)
theorem zn{N:Nat}(j p n:Nat)(s:St):gJ N s (Zd j p n s):=(D7 j p s).trans (zT n _)
attribute [go_sem] Zd PG
def Ze:List UInt8:=[102,110]
def nP(b:bA):aj:=bR [bO b.bJ,cK b.fType]
def oM(b:bG):aj:=bR [bO b.fName,cK b.fType]
def zU(f:aS):aj:=bR [bO Ze,bO f.fName,bR (aU f.aF),bR (f.bY.map nP),bR (f.aZ.map oM),cK f.bU,eH f.fBody]
noncomputable def A9(f:aS):aj:=qX (jE f) (zU f)
theorem abS(b:bA):(nP b).sz≤14+16*b.sz:=by
 have:=wh b.fType
 have:=bA.sum b
 rw[nP,iL];simp[fB,iR];omega
theorem Yv(b:bG):(oM b).sz≤14+16*b.sz:=by
 have:=wh b.fType
 have:=bG.sum b
 rw[oM,iL];simp[fB,iR];omega
theorem I9:∀l:List bA,fB (l.map nP)≤14*l.length+16*aI (l.map bA.enc)
 |[]=>by simp[fB]
 |c::l=>by
  have h1:=abS c
  have h2:=I9 l
  rw[List.map_cons,fB,List.map_cons,aI,List.length_cons];simp only[bA.sz] at h1;omega
theorem J7:∀l:List bG,fB (l.map oM)≤14*l.length+16*aI (l.map bG.enc)
 |[]=>by simp[fB]
 |c::l=>by
  have h1:=Yv c
  have h2:=J7 l
  rw[List.map_cons,fB,List.map_cons,aI,List.length_cons];simp only[bG.sz] at h1;omega
theorem VP{f:aS}(hok:gW f.fBody=true):(zU f).sz≤60+32*f.sz:=by
 have h1:=I9 f.bY
 have h2:=J7 f.aZ
 have h3:=wh f.bU
 have h4:=Cu f.fBody hok
 have h5:=aS.sum f
 rw[dD] at h5
 rw[zU,iL]
 simp[fB,iR,iL,iH,ny,Ze];omega
theorem wS{vars:List (List UInt8)}{bs:List bA}(h:mR vars bs=true):∀b∈bs,formed b.fType=true:=fun b hb=>by
 unfold mR at h
 rw[Bool.and_eq_true] at h
 have h2:=List.all_eq_true.1 h.2 b hb
 unfold kY at h2
 simp only[Bool.and_eq_true] at h2
 exact uq h2.1.2
theorem qK{vars:List (List UInt8)}{t:ah}(h:fF vars t=true):formed t=true:=by
 unfold fF at h
 rw[Bool.and_eq_true] at h
 exact uq h.1
theorem CO{vars:List (List UInt8)}{e:au}(h:nM vars e=true):gW e=true:=by
 unfold nM zS at h
 simp only[Bool.and_eq_true] at h
 exact NG h.2.1
theorem wJ{f:aS}(h:jE f=true):(∀b∈f.bY,formed b.fType=true)∧(∀q∈f.aZ,formed q.fType=true)∧formed f.bU=true∧gW f.fBody=true:=by
 unfold jE at h
 simp only[Bool.and_eq_true] at h
 obtain⟨_,_,_,h1,_,h2,h3,h4⟩:=h
 exact⟨wS h1,fun q hq=>rY.1 (sJ h2) _ (List.mem_map_of_mem hq),qK h3,CO h4⟩
end Go.Ab
namespace Go.Proofs.YtcfhnaohbaplhaaGreatDoor
open Go Go.Ab
theorem qm(xs:List bA)(n:Nat)(hfo:∀b∈xs,formed b.fType=true)(hlen:xs.length≤4194304)(hsz:∀b∈xs,b.sz≤4194304):aD Tryz.prog 229 [.c (.d (.sl (xs.map bA.enc)))] (.agg [.d (.s []),.d (.ol n (lx (xs.map nP) (n+1)))]):=fun S=>by
 obtain⟨L,hL⟩:∃L:Nat→Nat,L=fun i=>n+1+gD ((xs.map nP).take i):=⟨_,rfl⟩
 obtain⟨T,hT⟩:∃T:Nat→List (List D),T=fun i=>lx ((xs.map nP).take i) (n+1):=⟨_,rfl⟩
 have hT0:T 0=[]:=by rw[hT];rfl
 have fP:∀i,(T i).length≤i:=fun i=>by
  rw[hT];simp only[eX]
  exact List.length_take_le _ _
 have hTs:∀i (hi:i<xs.length),T i++[[.s [],.ol (L i) [[.s xs[i].bJ,.ol (L i+1) []],[.s (cK xs[i].fType).bS,.ol (L i+1+1) (lx (cK xs[i].fType).aY (L i+1+1+1))]]]]=T (i+1):=fun i hi=>by
  have:=vg (l:=xs.map nP) (i:=i) (by rw[List.length_map];exact hi) (n+1)
  rw[List.getElem_map,nP,dL,cO,iD,iD,kE,ru,iC,iP] at this
  rw[hT,hL];exact this
 have hTe:T xs.length=lx (xs.map nP) (n+1):=by
  rw[hT];simp only
  rw[List.take_of_length_le (by simp)]
 clear hT hL
 refine nk (n) 1 (rs:=[.cell 2 78]) Tryz.checked.mixed Tryz.func229 Tryz.ntmps229 rfl rfl rfl rfl rfl ?_
 refine W1 ?_
 refine W3 ?_
 refine kW n 3 2 [] (.inl rfl) (by simp) ?_
 refine kZ (L 0) ?_
 refine aR (ι:=Nat) Tryz.checked.mixed rfl [2,3,7,8,9] (fun i=>[.c (.ptr (0,2) 0),.c (.bI (0,3) (T i)),.c (.d (.sl (xs.map bA.enc))),.c (.d (.i .i64 xs.length)),.c (.d (.i .i64 i))])
  (fun i=>[.seed (L i),.seed 1,.box [.d (.s []),.bC []],.eB n 2 (T i)]::S)
  (fun i=>i≤xs.length) (fun i=>xs.length-i) 0 (by rw[hT0];rfl) (by rw[hT0];rfl) (Nat.zero_le _) ?_
 intro i hi
 have hl:=fP i
 refine W1 ?_
 refine S0 (fun hb h=>?_) fun hb h=>?_
 ·have hi':i<xs.length:=by omega
  have hm:=List.getElem_mem hi'
  have hcz:=hsz _ hm
  have hce:=bA.sum xs[i]
  have hs:=hTs i hi'
  refine W3 ?_
  refine C1 (bZ _ (L i+1)) ?_
  refine C1 (jD xs[i].fType (L i+1+1) (hfo _ hm) (by omega)) ?_
  refine W3 ?_
  refine C1 (kU _ _) ?_
  refine W3 ?_
  rw[hs]
  refine jf (L (i+1)) 3 (by decide) (i+1) (by omega) rfl rfl ?_ rfl (by omega)
  simp[gG,fH,V.refs,C.refs,iW]
 ·have hi':i=xs.length:=by omega
  refine dS rfl (iU 0 3 _ _) ?_
  refine W1 ?_
  rw[hi',hTe]
theorem Bq(f:aS)(n:Nat)(hv:jE f=true)(hsz:f.sz≤1048576):aD Tryz.prog 144 [f.v] (.agg [.d (.s []),.d (.ol n (lx (zU f).aY (n+1)))]):=fun S=>by
 have hdz:=aS.sum f
 rw[dD] at hdz
 obtain⟨hf1,hf2,hf3,y7⟩:=wJ hv
 obtain⟨p,hp⟩:∃p:Nat,p=n+1+1+1+dB (bR (aU f.aF))+dB (bR (f.bY.map nP)):=⟨_,rfl⟩
 obtain⟨L,hL⟩:∃L:Nat→Nat,L=fun i=>p+1+gD ((f.aZ.map oM).take i):=⟨_,rfl⟩
 obtain⟨T,hT⟩:∃T:Nat→List (List D),T=fun i=>lx ((f.aZ.map oM).take i) (p+1):=⟨_,rfl⟩
 have hT0:T 0=[]:=by rw[hT];rfl
 have fP:∀i,(T i).length≤i:=fun i=>by
  rw[hT];simp only[eX]
  exact List.length_take_le _ _
 have hTs:∀i (hi:i<f.aZ.length),T i++[[.s [],.ol (L i) [[.s f.aZ[i].fName,.ol (L i+1) []],[.s (cK f.aZ[i].fType).bS,.ol (L i+1+1) (lx (cK f.aZ[i].fType).aY (L i+1+1+1))]]]]=T (i+1):=fun i hi=>by
  have:=vg (l:=f.aZ.map oM) (i:=i) (by rw[List.length_map];exact hi) (p+1)
  rw[List.getElem_map,oM,dL,cO,iD,iD,kE,ru,iC,iP] at this
  rw[hT,hL];exact this
 have hTe:T f.aZ.length=lx (f.aZ.map oM) (p+1):=by
  rw[hT];simp only
  rw[List.take_of_length_le (by simp)]
 clear hT hL
 refine nk (p) 1 (rs:=[.cell 2 78]) Tryz.checked.mixed Tryz.func144 Tryz.ntmps144 rfl rfl rfl rfl rfl ?_
 refine W1 ?_
 refine W3 ?_
 refine kW p 3 2 [] (.inl rfl) (by simp) ?_
 refine kZ (L 0) ?_
 refine xW (zn 4 p n) ?_
 refine aR (ι:=Nat) Tryz.checked.mixed rfl [1,2,3,8,9,10] (fun i=>[.c (.ptr (0,2) 0),.c (.ptr (0,3) 0),.c (.bI (0,4) (T i)),.c (.d (.sl (f.aZ.map bG.enc))),.c (.d (.i .i64 f.aZ.length)),.c (.d (.i .i64 i))])
  (fun i=>[.seed (L i),.seed 1,.box [.d (.s f.fName),.d (.sl (f.aF.map encS)),.d (.sl (f.bY.map bA.enc)),.d (.sl (f.aZ.map bG.enc)),.d (.i .i64 f.bU.aV),.d (.s f.bU.fName),.d (.sl (f.bU.fArgs.map ah.enc)),.d (.i .i64 f.fBody.aV),.d (.s f.fBody.bJ),.d (.s f.fBody.fName),.d (.i .i64 f.fBody.fN),.d (.i .i64 f.fBody.fType.aV),.d (.s f.fBody.fType.fName),.d (.sl (f.fBody.fType.fArgs.map ah.enc)),.d (.sl (f.fBody.fArgs.map au.enc)),.d (.sl (f.fBody.aW.map aX.enc))],.box [.d (.s []),.bC []],.eB p 2 (T i)]::S)
  (fun i=>i≤f.aZ.length) (fun i=>f.aZ.length-i) 0 (by rw[hT0];rfl) (by rw[hT0];rfl) (Nat.zero_le _) ?_
 intro i hi
 have hl:=fP i
 refine W1 ?_
 refine S0 (fun hb h=>?_) fun hb h=>?_
 ·have hi':i<f.aZ.length:=by omega
  have hm:=List.getElem_mem hi'
  have hcz:=Dn hm
  have hce:=bG.sum f.aZ[i]
  have hs:=hTs i hi'
  refine W3 ?_
  refine C1 (bZ _ (L i+1)) ?_
  refine C1 (jD f.aZ[i].fType (L i+1+1) (hf2 _ hm) (by omega)) ?_
  refine W3 ?_
  refine C1 (kU _ _) ?_
  refine W3 ?_
  rw[hs]
  refine jf (L (i+1)) 4 (by decide) (i+1) (by omega) rfl rfl ?_ rfl (by omega)
  simp[gG,fH,V.refs,C.refs,iW]
 ·have hi':i=f.aZ.length:=by omega
  subst hi'
  rw[hTe]
  refine C1 (bZ _ (n+1)) ?_
  refine C1 (bZ _ (n+1+1)) ?_
  refine C1 (dP f.aF (by omega) (n+1+1+1)) ?_
  refine C1 (qm f.bY (n+1+1+1+dB (bR (aU f.aF))) hf1 (by omega) (fun b hb=>by have:=mM hb;omega)) ?_
  refine C1 (jo _) ?_
  refine C1 (jD f.bU (p+dB (bR (f.aZ.map oM))) hf3 (by omega)) ?_
  refine C1 (uH f.fBody (p+dB (bR (f.aZ.map oM))+dB (cK f.bU)) y7 (by omega)) ?_
  refine W3 ?_
  refine C1 (kU _ _) ?_
  rw[zU,cO]
  simp only[iD,kE,iC,jl,jm,dL,cO,iP,←hp,Ze]
theorem rA(xs:List bA)(hlen:xs.length≤4194304)(hsz:∀b∈xs,b.sz≤4194304):aD Tryz.prog 221 [.c (.d (.sl (xs.map bA.enc)))] (.agg [.d (.s []),.d (.sl ((xs.map nP).map aj.enc))]):=fun S=>by
 obtain⟨T,hT⟩:∃T:Nat→List (List D),T=fun i=>((xs.map nP).take i).map aj.enc:=⟨_,rfl⟩
 have hT0:T 0=[]:=by rw[hT];rfl
 have fP:∀i,(T i).length≤i:=fun i=>by
  rw[hT];simp only[List.length_map]
  exact List.length_take_le _ _
 have hTs:∀i (hi:i<xs.length),T i++[[.s [],.sl [[.s xs[i].bJ,.sl []],[.s (cK xs[i].fType).bS,.sl ((cK xs[i].fType).aY.map aj.enc)]]]]=T (i+1):=fun i hi=>by
  have:=gT (base:=[]) (l:=xs.map nP) (i:=i) (by rw[List.length_map];exact hi)
  rw[List.getElem_map,nP,dL,cO,List.map_cons,List.map_cons,List.map_nil,dY,aj.aH (cK xs[i].fType)] at this
  rw[hT];exact this
 have hTe:T xs.length=(xs.map nP).map aj.enc:=by
  rw[hT];simp only
  rw[List.take_of_length_le (by simp)]
 clear hT
 refine aB (rs:=[.cell 2 78]) Tryz.checked.mixed Tryz.func221 Tryz.ntmps221 rfl rfl rfl rfl rfl ?_
 refine W1 ?_
 refine nX 1 1 2 [] [.d (.s []),.bC []] rfl rfl (by simp) ?_
 refine aR (ι:=Nat) Tryz.checked.mixed rfl [0,2,3,4] (fun i=>[.c (.d (.sl (xs.map bA.enc))),.c (.ptr (0,0) 0),.c (.ptr (0,1) 0),.c (.d (.i .i64 i))])
  (fun i=>[.box [.d (.s []),.bC []],.box [.d (.s []),.bI (0,2) (T i)],.tok 2 (T i)]::S)
  (fun i=>i≤xs.length) (fun i=>xs.length-i) 0 rfl (by rw[hT0];rfl) (Nat.zero_le _) ?_
 intro i hi
 have hl:=fP i
 refine W1 ?_
 refine S0 (fun hb h=>?_) fun hb h=>?_
 ·have hi':i<xs.length:=by omega
  have hm:=List.getElem_mem hi'
  have hcz:=hsz _ hm
  have hce:=bA.sum xs[i]
  have hs:=hTs i hi'
  refine W3 ?_
  refine C1 (bK _) ?_
  refine W3 ?_
  refine C1 (jO xs[i].fType (by omega)) ?_
  refine W3 ?_
  refine C1 (kL _ (by simp) (by simp)) ?_
  refine W3 ?_
  rw[hs]
  exact bF (i+1) (by omega) rfl rfl (by omega)
 ·have hi':i=xs.length:=by omega
  subst hi'
  rw[hTe]
theorem J8(f:aS)(hsz:f.sz≤1048576):aD Tryz.prog 133 [f.v] (A9 f).v:=by
 unfold A9
 cases hv:jE f with
 |false=>
  rw[qX]
  refine aD.less (fun S=> ?_) (vo [] [])
  refine aB (rs:=[.cell 2 78]) Tryz.checked.mixed Tryz.func133 Tryz.ntmps133 rfl rfl rfl rfl rfl ?_
  refine W1 ?_
  refine bN (vv f (by omega)) ?_
  simp -implicitDefEqProofs (disch:=omega) only[go_sem,hv]
 |true=>
  intro S
  have hdz:=aS.sum f
  rw[dD] at hdz
  obtain⟨hf1,hf2,hf3,y7⟩:=wJ hv
  have hz:=VP y7
  obtain⟨T,hT⟩:∃T:Nat→List (List D),T=fun i=>((f.aZ.map oM).take i).map aj.enc:=⟨_,rfl⟩
  have hT0:T 0=[]:=by rw[hT];rfl
  have fP:∀i,(T i).length≤i:=fun i=>by
   rw[hT];simp only[List.length_map]
   exact List.length_take_le _ _
  have hTs:∀i (hi:i<f.aZ.length),T i++[[.s [],.sl [[.s f.aZ[i].fName,.sl []],[.s (cK f.aZ[i].fType).bS,.sl ((cK f.aZ[i].fType).aY.map aj.enc)]]]]=T (i+1):=fun i hi=>by
   have:=gT (base:=[]) (l:=f.aZ.map oM) (i:=i) (by rw[List.length_map];exact hi)
   rw[List.getElem_map,oM,dL,cO,List.map_cons,List.map_cons,List.map_nil,dY,aj.aH (cK f.aZ[i].fType)] at this
   rw[hT];exact this
  have hTe:T f.aZ.length=(f.aZ.map oM).map aj.enc:=by
   rw[hT];simp only
   rw[List.take_of_length_le (by simp)]
  clear hT
  refine aB (rs:=[.cell 2 78]) Tryz.checked.mixed Tryz.func133 Tryz.ntmps133 rfl rfl rfl rfl rfl ?_
  refine W1 ?_
  refine bN (vv f (by omega)) ?_
  simp -implicitDefEqProofs (disch:=omega) only[go_sem,hv]
  refine nX 2 1 2 [] [.d (.s []),.bC []] rfl rfl (by simp) ?_
  refine aR (ι:=Nat) Tryz.checked.mixed rfl [1,2,3,4] (fun i=>[.c (.ptr (0,0) 0),.c (.ptr (0,1) 0),.c (.ptr (0,2) 0),.c (.d (.i .i64 i))])
   (fun i=>[.box [.d (.s f.fName),.d (.sl (f.aF.map encS)),.d (.sl (f.bY.map bA.enc)),.d (.sl (f.aZ.map bG.enc)),.d (.i .i64 f.bU.aV),.d (.s f.bU.fName),.d (.sl (f.bU.fArgs.map ah.enc)),.d (.i .i64 f.fBody.aV),.d (.s f.fBody.bJ),.d (.s f.fBody.fName),.d (.i .i64 f.fBody.fN),.d (.i .i64 f.fBody.fType.aV),.d (.s f.fBody.fType.fName),.d (.sl (f.fBody.fType.fArgs.map ah.enc)),.d (.sl (f.fBody.fArgs.map au.enc)),.d (.sl (f.fBody.aW.map aX.enc))],.box [.d (.s []),.bC []],.box [.d (.s []),.bI (0,3) (T i)],.tok 2 (T i)]::S)
   (fun i=>i≤f.aZ.length) (fun i=>f.aZ.length-i) 0 rfl (by rw[hT0];rfl) (Nat.zero_le _) ?_
  intro i hi
  have hl:=fP i
  refine W1 ?_
  refine S0 (fun hb h=>?_) fun hb h=>?_
  ·have hi':i<f.aZ.length:=by omega
   have hm:=List.getElem_mem hi'
   have hcz:=Dn hm
   have hce:=bG.sum f.aZ[i]
   have hs:=hTs i hi'
   refine W3 ?_
   refine C1 (bK _) ?_
   refine W3 ?_
   refine C1 (jO f.aZ[i].fType (by omega)) ?_
   refine W3 ?_
   refine C1 (kL _ (by simp) (by simp)) ?_
   refine W3 ?_
   rw[hs]
   exact bF (i+1) (by omega) rfl rfl (by omega)
  ·have hi':i=f.aZ.length:=by omega
   subst hi'
   rw[hTe]
   refine C1 (bK _) ?_
   refine C1 (bK _) ?_
   refine C1 (dH f.aF (by omega)) ?_
   refine C1 (rA f.bY (by omega) (fun b hb=>by have:=mM hb;omega)) ?_
   refine C1 (jO f.bU (by omega)) ?_
   refine C1 (o9 f.fBody y7 (by omega)) ?_
   refine W3 ?_
   refine C1 (kL _ (by simp) (by simp)) ?_
   refine W3 ?_
   have hI:=nA true (zU f) (by omega)
   have hx:(zU f).v=V.agg [.d (.s []),.d (.sl [[.s [102,110],.sl []],[.s f.fName,.sl []],[.s [],.sl ((aU f.aF).map aj.enc)],[.s [],.sl ((f.bY.map nP).map aj.enc)],[.s [],.sl ((f.aZ.map oM).map aj.enc)],[.s (cK f.bU).bS,.sl ((cK f.bU).aY.map aj.enc)],[.s (eH f.fBody).bS,.sl ((eH f.fBody).aY.map aj.enc)]])]:=by
    rw[zU]
    show V.agg [.d (.s []),.d (.sl (List.map aj.enc _))]=_
    simp only[cO,List.map_cons,List.map_nil,dY,iA,aj.aH (cK f.bU),aj.aH (eH f.fBody),Ze]
   rw[hx] at hI
   refine bN hI ?_
   exact Z1
end Go.Proofs.YtcfhnaohbaplhaaGreatDoor
namespace Go.Ab
noncomputable def jK(t:bg):List (List UInt8):=t.aA.map aT.fName
noncomputable def rJ(t:bg):Prop:=t.nO=true∧(t.bQ=true∨0<t.aA.length∨0<t.bE.length)
noncomputable def dI(t:bg):Bool:=
 validName t.fName&&(dec (t.bE.length≤4)&&(gQ t.bE&&(dec (t.aA.length≤6)&&(!dec (rJ t)&&(t.aA.all gN&&dec (jK t).Nodup)))))
theorem bg.sum(x:bg):x.fName.length+(x.bE.length+aI (x.bE.map encS))+(x.aA.length+aI (x.aA.map aT.enc))≤x.sz:=by
 simp only[bg.sz,bg.aH,bH,bf,D.sz,List.length_map]
 omega
theorem tJ{xs:List aT}{t:aT}(h:t∈xs):t.sz≤aI (xs.map aT.enc):=bD (List.mem_map_of_mem h)
theorem Tj{g:aT}(h:gN g=true):validName g.fName=true:=by
 unfold gN at h
 rw[Bool.and_eq_true] at h
 exact h.1
theorem PI{t:bg}(h:t.aA.all gN=true):(jK t).all validName=true:=by
 unfold jK
 rw[List.all_map]
 refine List.all_eq_true.2 fun g hg=>Tj (List.all_eq_true.1 h g hg)
end Go.Ab
namespace Go.Proofs.YtcfhnaohbaplhaaGreatDoor
open Go Go.Ab
theorem DC(t:bg)(hsz:t.sz≤4194304):aD Tryz.prog 172 [t.v] (.c (.d (.b (dI t)))):=fun S=>by
 have hs:=bg.sum t
 have hV:∀s∈t.bE,s.length≤4194304:=fun s h=>by have:=nZ h;omega
 have hG:∀g∈t.aA,g.sz≤4194304:=fun g h=>by have:=tJ h;omega
 refine(show Hold ((validName t.fName=true∧t.bE.length≤4∧gQ t.bE=true∧t.aA.length≤6∧¬rJ t)→ ?T)→_ from fun tail=> ?main) ?tp
 case' main=>
  refine aB (rs:=[.tmp 2]) Tryz.checked.mixed Tryz.func172 Tryz.ntmps172 rfl rfl rfl rfl rfl ?_
  refine W1 ?_
  refine C2 (fT t.fName (by omega)) ?_
  refine S0 (fun hb h=>?_) fun hb h=>?_
  ·exact ay (by unfold dI;rw[h];rfl)
  have h1:=h
  refine S0 (fun hb h=>?_) fun hb h=>?_
  ·exact ay (by unfold dI;rw[aC (show ¬t.bE.length≤4 by omega)];simp)
  have h2:=h
  refine W3 ?_
  refine C2 (lX t.bE (by omega) hV) ?_
  refine S0 (fun hb h=>?_) fun hb h=>?_
  ·exact ay (by unfold dI;rw[h];simp)
  have h3:=h
  refine S0 (fun hb h=>?_) fun hb h=>?_
  ·exact ay (by unfold dI;rw[aC (show ¬t.aA.length≤6 by omega)];simp)
  have h4:=h
  have bad:rJ t→V.c (.d (.b false))=V.c (.d (.b (dI t))):=fun h=>ay (by unfold dI;rw[bq h];simp)
  have pre:¬rJ t→(validName t.fName=true∧t.bE.length≤4∧gQ t.bE=true∧t.aA.length≤6∧¬rJ t):=fun h=>⟨h1,by omega,h3,by omega,h⟩
  repeat' (first|refine S0 (fun hb h=>?_) fun hb h=>?_)
  all_goals first
   |(refine bad ⟨by assumption,?_⟩;first|exact .inl (by assumption)|exact .inr (.inl (by omega))|exact .inr (.inr (by omega)))
   |skip
  all_goals
   have na:¬rJ t:=fun x=>by
    obtain⟨x1,x2⟩:=x
    rcases x2 with x2|x2|x2<;>first|omega|simp_all
   refine W3 ?_
   refine l9 3 1 [] rfl (by simp) ?_
   refine oD (st':=[.box (t.enc.map .d),.tok 1 []]::S) [3,48,49,50] [.c (.bI (0,1) []),.c (.d (.sl (t.aA.map aT.enc))),.c (.d (.i .i64 t.aA.length)),.c (.d (.i .i64 0))] ?_ ?_ ?_
   ·rfl
   ·first|(refine W1 ?_;done)|(refine W1 ?_;simp[*])
   ·exact tail.out (pre na)
 refine⟨fun hp=> ?_⟩
 obtain⟨h1,h2,h3,h4,h5⟩:=hp
 have bad:∀i,∀hi:i<t.aA.length,gN t.aA[i]=false→dI t=false:=fun i hi h=>by
  have:t.aA.all gN=false:=Bool.eq_false_iff.2 fun hx=>by
   rw[List.all_eq_true.1 hx _ (List.getElem_mem hi)] at h;cases h
  unfold dI
  rw[this];simp
 refine aR (ι:=Nat×List (List UInt8)) Tryz.checked.mixed rfl [3,48,49,50] (fun y=>[.c (.bI (0,1) (y.2.map encS)),.c (.d (.sl (t.aA.map aT.enc))),.c (.d (.i .i64 t.aA.length)),.c (.d (.i .i64 y.1))]) (fun y=>[.box (t.enc.map .d),.tok 1 (y.2.map encS)]::S)
  (fun y=>y.1≤t.aA.length∧y.2=(jK t).take y.1∧∀j,∀hj:j<t.aA.length,j<y.1→gN t.aA[j]=true) (fun y=>t.aA.length-y.1) (0,[]) rfl ?_ ⟨Nat.zero_le _,rfl,fun j _ h=>by simp only at h;omega⟩ ?_
 ·exact Z1
 rintro⟨i,names⟩ ⟨p1,p2,p3⟩
 simp only at p1 p2 p3
 have pl:names.length≤t.aA.length:=by rw[p2];simp[jK];omega
 refine W1 ?_
 refine S0 (fun hb h=>?_) fun hb h=>?_
 ·have hi:i<t.aA.length:=by omega
  refine W3 ?_
  refine C2 (IX t.aA[i] (hG _ (List.getElem_mem hi))) ?_
  refine S0 (fun hb h=>?_) fun hb h=>?_
  ·rw[bad i hi h]
  have k2:=h
  refine W3 ?_
  rw[show List.map encS names++[[D.s t.aA[i].fName]]=List.map encS (names++[t.aA[i].fName]) by simp[encS]]
  exact bX 2 (by decide) (i+1,names++[t.aA[i].fName]) (by simp only;omega) rfl rfl rfl rfl ⟨by simp only;omega,by simp only;rw[p2,gI (by simpa [jK] using hi)];simp[jK],fun j hj hji=>by
   simp only at hji
   by_cases e:j=i
   ·subst e;exact k2
   ·exact p3 j hj (by omega)⟩
 have hi:i=t.aA.length:=by omega
 have hn:names=jK t:=by rw[p2,List.take_of_length_le (by simp[jK];omega)]
 have hall:t.aA.all gN=true:=List.all_eq_true.2 fun c hc=>by
  obtain⟨j,hj,e⟩:=List.getElem_of_mem hc
  rw[←e];exact p3 j hj (by omega)
 refine C2 (mJ names (by omega)) ?_
 exact ay (by unfold dI;rw[h1,h3,hall,←hn,bq h2,bq h4,aC h5];simp)
theorem mY(t:bg)(hsz:t.sz≤4194304):aD Tryz.prog 217 [t.v] (.c (.d (.b (dI t)))):=fun S=>by
 have hs:=bg.sum t
 have hV:∀s∈t.bE,s.length≤4194304:=fun s h=>by have:=nZ h;omega
 have hG:∀g∈t.aA,g.sz≤4194304:=fun g h=>by have:=tJ h;omega
 have bad:∀i,∀hi:i<t.aA.length,gN t.aA[i]=false→dI t=false:=fun i hi h=>by
  have:t.aA.all gN=false:=Bool.eq_false_iff.2 fun hx=>by
   rw[List.all_eq_true.1 hx _ (List.getElem_mem hi)] at h;cases h
  unfold dI
  rw[this];simp
 have afQ:rJ t→V.c (.d (.b false))=V.c (.d (.b (dI t))):=fun h=>ay (by unfold dI;rw[bq h];simp)
 refine aB (rs:=[.tmp 2]) Tryz.checked.mixed Tryz.func217 Tryz.ntmps217 rfl rfl rfl rfl rfl ?_
 refine W1 ?_
 refine W3 ?_
 refine l9 3 1 [] rfl (by simp) ?_
 refine aR (ι:=Nat×List (List UInt8)) Tryz.checked.mixed rfl [1,3,4] (fun y=>[.c (.ptr (0,0) 0),.c (.bI (0,1) (y.2.map encS)),.c (.d (.i .i64 y.1))]) (fun y=>[.box (t.enc.map .d),.tok 1 (y.2.map encS)]::S)
  (fun y=>y.1≤t.aA.length∧y.2=(jK t).take y.1∧∀j,∀hj:j<t.aA.length,j<y.1→gN t.aA[j]=true) (fun y=>t.aA.length-y.1) (0,[]) rfl ?_ ⟨Nat.zero_le _,rfl,fun j _ h=>by simp only at h;omega⟩ ?_
 ·exact Z1
 rintro⟨i,names⟩ ⟨p1,p2,p3⟩
 simp only at p1 p2 p3
 have pl:names.length≤t.aA.length:=by rw[p2];simp[jK];omega
 refine W1 ?_
 refine S0 (fun hb h=>?_) fun hb h=>?_
 ·have hi:i<t.aA.length:=by omega
  refine W3 ?_
  refine C2 (VN t.aA[i] (hG _ (List.getElem_mem hi))) ?_
  refine S0 (fun hb h=>?_) fun hb h=>?_
  ·rw[bad i hi h]
  have k2:=h
  refine W3 ?_
  rw[show List.map encS names++[[D.s t.aA[i].fName]]=List.map encS (names++[t.aA[i].fName]) by simp[encS]]
  exact bF (i+1,names++[t.aA[i].fName]) (by simp only;omega) rfl rfl ⟨by simp only;omega,by simp only;rw[p2,gI (by simpa [jK] using hi)];simp[jK],fun j hj hji=>by
   simp only at hji
   by_cases e:j=i
   ·subst e;exact k2
   ·exact p3 j hj (by omega)⟩
 have hi:i=t.aA.length:=by omega
 have hn:names=jK t:=by rw[p2,List.take_of_length_le (by simp[jK];omega)]
 have hall:t.aA.all gN=true:=List.all_eq_true.2 fun c hc=>by
  obtain⟨j,hj,e⟩:=List.getElem_of_mem hc
  rw[←e];exact p3 j hj (by omega)
 have Fu:=PI hall
 have hnl:∀s∈names,s.length≤4194304:=fun s hm=>by
  rw[hn] at hm
  obtain⟨g,hg,e⟩:=List.mem_map.1 hm
  have:=hG g hg
  have:=aT.sum g
  rw[←e]
  omega
 have hlen:names.length=t.aA.length:=by rw[hn];simp[jK]
 clear bad p2 p3
 repeat' (first|refine S0 (fun hb h=>?_) fun hb h=>?_)
 all_goals first
  |(refine afQ ⟨by assumption,?_⟩;first|exact .inl (by assumption)|exact .inr (.inl (by omega))|exact .inr (.inr (by omega)))
  |skip
 all_goals
  have na:¬rJ t:=fun x=>by
   obtain⟨x1,x2⟩:=x
   rcases x2 with x2|x2|x2<;>first|omega|simp_all
  refine W3 ?_
  refine C1 (fU t.fName (by omega)) ?_
  refine S0 (fun hb h=>?_) fun hb h=>?_
  ·have h1:=h
   refine W3 ?_
   refine C2 (jX t.bE 4 (by omega) hV) ?_
   refine S0 (fun hb h=>?_) fun hb h=>?_
   ·have h2:=h
    rw[Bool.and_eq_true] at h2
    have h3:=iO h2.1
    refine C2 (jX names 6 (by omega) hnl) ?_
    refine ay ?_
    unfold dI
    rw[h1,h2.2,hall,aC na,bq (show t.bE.length≤4 by omega),hlen]
    unfold gQ
    rw[hn,Fu,Bool.and_true]
    simp only[Bool.true_and,Bool.not_false]
    congr 1
    exact gP ⟨fun h=>by omega,fun h=>by omega⟩
   ·refine ay ?_
    unfold dI
    have h2:(dec (t.bE.length≤4)&&gQ t.bE)=false:=by
     rw[←h];congr 1;exact gP ⟨fun h=>by omega,fun h=>by omega⟩
    rw[←Bool.and_assoc (dec (t.bE.length≤4)),h2];simp
  ·exact ay (by unfold dI;rw[h];rfl)
end Go.Proofs.YtcfhnaohbaplhaaGreatDoor
namespace Go.Ab
def xA:List UInt8:=[97,117,116,111]
def wu:List UInt8:=[116,114,97,105,116]
def mZ(t:bg):List (List UInt8):=(if t.nO=true then [xA] else [])++(if t.bQ=true then [kD] else [])
def lH(g:aT):aj:=bR ([bO g.fName,bR (g.aZ.map cK),cK g.bU]++if g.iy=true then [bR (aU g.aF),eH g.fBody] else [])
theorem Qx(n:Nat)(es:List (List D)):Less (.c (.d (.ol n es))) (.c (.d (.sl es))):=fun w σ S β v h=>⟨vR h.1,h.2⟩
def gX(t:bg):List aj:=[bO wu,bO t.fName,bR (aU t.bE),bR (aU (mZ t))]
def lQ(t:bg):aj:=bR (gX t++t.aA.map lH)
noncomputable def r9(x:bg):aj:=qX (dI x) (lQ x)
theorem xG{g:aT}(h:g.iy=true):(lH g).aY=[bO g.fName,bR (g.aZ.map cK),cK g.bU,bR (aU g.aF),eH g.fBody]:=by rw[lH,if_pos h];rfl
theorem xH{g:aT}(h:g.iy=false):(lH g).aY=[bO g.fName,bR (g.aZ.map cK),cK g.bU]:=by rw[lH,if_neg (by rw[h];decide)];rfl
theorem vw(g:aT):(lH g).bS=[]:=rfl
theorem oF{g:aT}(h:gN g=true):iQ g.aZ=true∧formed g.bU=true∧(g.iy=true→gW g.fBody=true):=by
 unfold gN at h
 simp only[Bool.and_eq_true] at h
 obtain⟨_,_,h1,h2,h3⟩:=h
 refine⟨sJ h1,qK h2,fun hd=> ?_⟩
 rw[if_pos hd,Bool.and_eq_true] at h3
 exact CO h3.2
theorem abT(g:aT)(hok:gN g=true):(lH g).sz≤48+32*g.sz:=by
 obtain⟨_,_,hb⟩:=oF hok
 have h1:=Gd g.aZ
 have h2:=wh g.bU
 have h3:=aT.sum g
 rw[dD,yj] at h3
 by_cases hd:g.iy=true
 ·have h4:=Cu g.fBody (hb hd)
  rw[lH,if_pos hd,iL]
  simp[fB,iR,iL,iH,ny];omega
 ·rw[lH,if_neg hd,iL]
  simp[fB,iR,iL,iH,ny];omega
theorem Qy:∀l:List aT,(∀g∈l,gN g=true)→fB (l.map lH)≤48*l.length+32*aI (l.map aT.enc)
 |[],_=>by simp[fB]
 |c::l,h=>by
  have h1:=abT c (h c (List.mem_cons_self ..))
  have h2:=Qy l fun g hg=>h g (List.mem_cons_of_mem _ hg)
  rw[List.map_cons,fB,List.map_cons,aI,List.length_cons];simp only[aT.sz] at h1;omega
theorem iV{t:bg}(h:dI t=true):(∀g∈t.aA,gN g=true)∧¬(t.nO=true∧t.bQ=true):=by
 unfold dI at h
 simp only[Bool.and_eq_true,Bool.not_eq_true'] at h
 obtain⟨_,_,_,_,h1,h2,_⟩:=h
 refine⟨fun g hg=>List.all_eq_true.1 h2 g hg,fun hh=> ?_⟩
 rw[bq (show rJ t from⟨hh.1,.inl hh.2⟩)] at h1
 cases h1
theorem VQ(t:bg):(mZ t).length≤2∧((mZ t).map List.length).sum≤9:=by
 unfold mZ;split<;>split<;>simp[xA,kD]
theorem Dp{t:bg}(hok:dI t=true):(lQ t).sz≤64+49*t.sz:=by
 have h1:=Qy t.aA (iV hok).1
 have h2:=VQ t
 have h3:=bg.sum t
 rw[dD] at h3
 rw[lQ,iL,gK,List.length_append,List.length_map]
 simp[gX,fB,iR,iL,iH,ny,wu];omega
theorem zo(n:Nat)(a b:List UInt8)(w v:List (List UInt8)):lx [bO a,bO b,bR (aU w),bR (aU v)] (n+1)=[[.s a,.ol (n+1) []],[.s b,.ol (n+1+1) []],[.s [],.ol (n+1+1+1) (lx (aU w) (n+1+1+1+1))],[.s [],.ol (n+1+1+1+dB (bR (aU w))) (lx (aU v) (n+1+1+1+dB (bR (aU w))+1))]]:=by
 simp only[iD,kE,iC,jl,jm,dL,cO,iP]
end Go.Ab
namespace Go.Proofs.YtcfhnaohbaplhaaGreatDoor
open Go Go.Ab
theorem PK(t:bg)(n:Nat)(hv:dI t=true)(hsz:t.sz≤1048576)(ha:t.nO=true)(hs:t.bQ=false):aD Tryz.prog 141 [t.v] (.agg [.d (.s []),.d (.ol n (lx (lQ t).aY (n+1)))]):=fun S=>by
 have hdz:=bg.sum t
 rw[dD] at hdz
 obtain⟨hso,_⟩:=iV hv
 have hfl:mZ t=[xA]:=by unfold mZ;rw[ha,hs];rfl
 obtain⟨L,hL⟩:∃L:Nat→Nat,L=fun i=>n+1+gD (gX t++(t.aA.map lH).take i):=⟨_,rfl⟩
 obtain⟨T,hT⟩:∃T:Nat→List (List D),T=fun i=>lx (gX t++(t.aA.map lH).take i) (n+1):=⟨_,rfl⟩
 have hT0:T 0=[[.s wu,.ol (n+1) []],[.s t.fName,.ol (n+1+1) []],[.s [],.ol (n+1+1+1) (lx (aU t.bE) (n+1+1+1+1))],[.s [],.ol (n+1+1+1+dB (bR (aU t.bE))) (lx (aU [xA]) (n+1+1+1+dB (bR (aU t.bE))+1))]]:=by
  rw[hT];simp only[List.take_zero,List.append_nil,gX,hfl];exact zo _ _ _ _ _
 have fP:∀i,(T i).length≤i+4:=fun i=>by
  rw[hT];simp only[eX,List.length_append]
  have:=List.length_take_le i (t.aA.map lH)
  simp[gX];omega
 have hTs:∀i (hi:i<t.aA.length),T i++[[.s [],.ol (L i) (lx (lH t.aA[i]).aY (L i+1))]]=T (i+1):=fun i hi=>by
  have:=vk (base:=gX t) (l:=t.aA.map lH) (i:=i) (by rw[List.length_map];exact hi) (n+1)
  rw[List.getElem_map,vw] at this
  rw[hT,hL];exact this
 have hTr:∀i,∀r∈T i,r.length=2:=fun i=>by rw[hT];exact jc
 have hTe:T t.aA.length=lx (lQ t).aY (n+1):=by
  rw[hT];simp only
  rw[List.take_of_length_le (by simp)];rfl
 clear hT hL
 refine nk (n) 1 (rs:=[.cell 2 78]) Tryz.checked.mixed Tryz.func141 Tryz.ntmps141 rfl rfl rfl rfl rfl ?_
 simp -implicitDefEqProofs (disch:=omega) only[go_sem,ha,hs]
 refine W3 ?_
 refine C1 (bZ _ (n+1)) ?_
 refine C1 (bZ _ (n+1+1)) ?_
 refine C1 (dP t.bE (by omega) (n+1+1+1)) ?_
 refine nK (dP [xA] (by simp) (n+1+1+1+dB (bR (aU t.bE)))) (.cons (Qx n _) .nil) ?_
 refine W1 ?_
 refine W3 ?_
 refine kW n 4 2 (T 0) (.inl ?_) (hTr 0) ?_
 ·rw[hT0];rfl
 refine kZ (L 0) ?_
 refine aR (ι:=Nat) Tryz.checked.mixed rfl [2,4,30,31,32] (fun i=>[.c (.ptr (0,3) 0),.c (.bI (0,4) (T i)),.c (.d (.sl (t.aA.map aT.enc))),.c (.d (.i .i64 t.aA.length)),.c (.d (.i .i64 i))])
  (fun i=>[.seed (L i),.seed 1,.box [.d (.s t.fName),.d (.sl (t.bE.map encS)),.d (.b true),.d (.b false),.d (.sl (t.aA.map aT.enc))],.box [.d (.s []),.bC []],.eB n 2 (T i)]::S)
  (fun i=>i≤t.aA.length) (fun i=>t.aA.length-i) 0 rfl rfl (Nat.zero_le _) ?_
 intro i hi
 have hl:=fP i
 refine W1 ?_
 refine S0 (fun hb h=>?_) fun hb h=>?_
 ·have hi':i<t.aA.length:=by omega
  have hm:=List.getElem_mem hi'
  have hcz:=tJ hm
  have hce:=aT.sum t.aA[i]
  rw[dD] at hce
  obtain⟨q1,q2,q3⟩:=oF (hso _ hm)
  have hst:=hTs i hi'
  refine W3 ?_
  refine C1 (bZ _ (L i+1)) ?_
  refine C1 (vN t.aA[i].aZ (L i+1+1) (L i+1+1+1) q1 (by omega) (fun u hu=>by have:=tH hu;omega)) ?_
  refine C1 (jo _) ?_
  refine C1 (jD t.aA[i].bU (L i+1+1+dB (bR (t.aA[i].aZ.map cK))) q2 (by omega)) ?_
  refine S0 (fun hb h=>?_) fun hb h=>?_
  ·rw[xG h] at hst
   simp only[iD,kE,iC,jl,jm,dL,cO,iP] at hst
   refine C1 (dP t.aA[i].aF (by omega) (L i+1+1+dB (bR (t.aA[i].aZ.map cK))+dB (cK t.aA[i].bU))) ?_
   refine C1 (uH t.aA[i].fBody (L i+1+1+dB (bR (t.aA[i].aZ.map cK))+dB (cK t.aA[i].bU)+dB (bR (aU t.aA[i].aF))) (q3 h) (by omega)) ?_
   refine W3 ?_
   refine C1 (jo _) ?_
   refine W3 ?_
   rw[hst]
   refine jf (L (i+1)) 4 (by decide) (i+1) (by omega) rfl rfl ?_ rfl (by omega)
   simp[gG,fH,V.refs,C.refs,iW]
  ·rw[xH h] at hst
   simp only[iD,kE,iC,jl,jm,dL,cO,iP] at hst
   refine C1 (kU _ _) ?_
   refine W3 ?_
   rw[hst]
   refine jf (L (i+1)) 4 (by decide) (i+1) (by omega) rfl rfl ?_ rfl (by omega)
   simp[gG,fH,V.refs,C.refs,iW]
 ·have hi':i=t.aA.length:=by omega
  refine dS rfl (iU 0 4 _ _) ?_
  refine W1 ?_
  rw[hi',hTe]
theorem PN(t:bg)(n:Nat)(hv:dI t=true)(hsz:t.sz≤1048576)(ha:t.nO=false)(hs:t.bQ=true):aD Tryz.prog 141 [t.v] (.agg [.d (.s []),.d (.ol n (lx (lQ t).aY (n+1)))]):=fun S=>by
 have hdz:=bg.sum t
 rw[dD] at hdz
 obtain⟨hso,_⟩:=iV hv
 have hfl:mZ t=[kD]:=by unfold mZ;rw[ha,hs];rfl
 obtain⟨L,hL⟩:∃L:Nat→Nat,L=fun i=>n+1+gD (gX t++(t.aA.map lH).take i):=⟨_,rfl⟩
 obtain⟨T,hT⟩:∃T:Nat→List (List D),T=fun i=>lx (gX t++(t.aA.map lH).take i) (n+1):=⟨_,rfl⟩
 have hT0:T 0=[[.s wu,.ol (n+1) []],[.s t.fName,.ol (n+1+1) []],[.s [],.ol (n+1+1+1) (lx (aU t.bE) (n+1+1+1+1))],[.s [],.ol (n+1+1+1+dB (bR (aU t.bE))) (lx (aU [kD]) (n+1+1+1+dB (bR (aU t.bE))+1))]]:=by
  rw[hT];simp only[List.take_zero,List.append_nil,gX,hfl];exact zo _ _ _ _ _
 have fP:∀i,(T i).length≤i+4:=fun i=>by
  rw[hT];simp only[eX,List.length_append]
  have:=List.length_take_le i (t.aA.map lH)
  simp[gX];omega
 have hTs:∀i (hi:i<t.aA.length),T i++[[.s [],.ol (L i) (lx (lH t.aA[i]).aY (L i+1))]]=T (i+1):=fun i hi=>by
  have:=vk (base:=gX t) (l:=t.aA.map lH) (i:=i) (by rw[List.length_map];exact hi) (n+1)
  rw[List.getElem_map,vw] at this
  rw[hT,hL];exact this
 have hTr:∀i,∀r∈T i,r.length=2:=fun i=>by rw[hT];exact jc
 have hTe:T t.aA.length=lx (lQ t).aY (n+1):=by
  rw[hT];simp only
  rw[List.take_of_length_le (by simp)];rfl
 clear hT hL
 refine nk (n) 1 (rs:=[.cell 2 78]) Tryz.checked.mixed Tryz.func141 Tryz.ntmps141 rfl rfl rfl rfl rfl ?_
 simp -implicitDefEqProofs (disch:=omega) only[go_sem,ha,hs]
 refine W3 ?_
 refine C1 (bZ _ (n+1)) ?_
 refine C1 (bZ _ (n+1+1)) ?_
 refine C1 (dP t.bE (by omega) (n+1+1+1)) ?_
 refine nK (dP [kD] (by simp) (n+1+1+1+dB (bR (aU t.bE)))) (.cons (Qx n _) .nil) ?_
 refine W1 ?_
 refine W3 ?_
 refine kW n 4 2 (T 0) (.inl ?_) (hTr 0) ?_
 ·rw[hT0];rfl
 refine kZ (L 0) ?_
 refine aR (ι:=Nat) Tryz.checked.mixed rfl [2,4,30,31,32] (fun i=>[.c (.ptr (0,3) 0),.c (.bI (0,4) (T i)),.c (.d (.sl (t.aA.map aT.enc))),.c (.d (.i .i64 t.aA.length)),.c (.d (.i .i64 i))])
  (fun i=>[.seed (L i),.seed 1,.box [.d (.s t.fName),.d (.sl (t.bE.map encS)),.d (.b false),.d (.b true),.d (.sl (t.aA.map aT.enc))],.box [.d (.s []),.bC []],.eB n 2 (T i)]::S)
  (fun i=>i≤t.aA.length) (fun i=>t.aA.length-i) 0 rfl rfl (Nat.zero_le _) ?_
 intro i hi
 have hl:=fP i
 refine W1 ?_
 refine S0 (fun hb h=>?_) fun hb h=>?_
 ·have hi':i<t.aA.length:=by omega
  have hm:=List.getElem_mem hi'
  have hcz:=tJ hm
  have hce:=aT.sum t.aA[i]
  rw[dD] at hce
  obtain⟨q1,q2,q3⟩:=oF (hso _ hm)
  have hst:=hTs i hi'
  refine W3 ?_
  refine C1 (bZ _ (L i+1)) ?_
  refine C1 (vN t.aA[i].aZ (L i+1+1) (L i+1+1+1) q1 (by omega) (fun u hu=>by have:=tH hu;omega)) ?_
  refine C1 (jo _) ?_
  refine C1 (jD t.aA[i].bU (L i+1+1+dB (bR (t.aA[i].aZ.map cK))) q2 (by omega)) ?_
  refine S0 (fun hb h=>?_) fun hb h=>?_
  ·rw[xG h] at hst
   simp only[iD,kE,iC,jl,jm,dL,cO,iP] at hst
   refine C1 (dP t.aA[i].aF (by omega) (L i+1+1+dB (bR (t.aA[i].aZ.map cK))+dB (cK t.aA[i].bU))) ?_
   refine C1 (uH t.aA[i].fBody (L i+1+1+dB (bR (t.aA[i].aZ.map cK))+dB (cK t.aA[i].bU)+dB (bR (aU t.aA[i].aF))) (q3 h) (by omega)) ?_
   refine W3 ?_
   refine C1 (jo _) ?_
   refine W3 ?_
   rw[hst]
   refine jf (L (i+1)) 4 (by decide) (i+1) (by omega) rfl rfl ?_ rfl (by omega)
   simp[gG,fH,V.refs,C.refs,iW]
  ·rw[xH h] at hst
   simp only[iD,kE,iC,jl,jm,dL,cO,iP] at hst
   refine C1 (kU _ _) ?_
   refine W3 ?_
   rw[hst]
   refine jf (L (i+1)) 4 (by decide) (i+1) (by omega) rfl rfl ?_ rfl (by omega)
   simp[gG,fH,V.refs,C.refs,iW]
 ·have hi':i=t.aA.length:=by omega
  refine dS rfl (iU 0 4 _ _) ?_
  refine W1 ?_
  rw[hi',hTe]
theorem PO(t:bg)(n:Nat)(hv:dI t=true)(hsz:t.sz≤1048576)(ha:t.nO=false)(hs:t.bQ=false):aD Tryz.prog 141 [t.v] (.agg [.d (.s []),.d (.ol n (lx (lQ t).aY (n+1)))]):=fun S=>by
 have hdz:=bg.sum t
 rw[dD] at hdz
 obtain⟨hso,_⟩:=iV hv
 have hfl:mZ t=[]:=by unfold mZ;rw[ha,hs];rfl
 obtain⟨L,hL⟩:∃L:Nat→Nat,L=fun i=>n+1+gD (gX t++(t.aA.map lH).take i):=⟨_,rfl⟩
 obtain⟨T,hT⟩:∃T:Nat→List (List D),T=fun i=>lx (gX t++(t.aA.map lH).take i) (n+1):=⟨_,rfl⟩
 have hT0:T 0=[[.s wu,.ol (n+1) []],[.s t.fName,.ol (n+1+1) []],[.s [],.ol (n+1+1+1) (lx (aU t.bE) (n+1+1+1+1))],[.s [],.ol (n+1+1+1+dB (bR (aU t.bE))) (lx (aU []) (n+1+1+1+dB (bR (aU t.bE))+1))]]:=by
  rw[hT];simp only[List.take_zero,List.append_nil,gX,hfl];exact zo _ _ _ _ _
 have fP:∀i,(T i).length≤i+4:=fun i=>by
  rw[hT];simp only[eX,List.length_append]
  have:=List.length_take_le i (t.aA.map lH)
  simp[gX];omega
 have hTs:∀i (hi:i<t.aA.length),T i++[[.s [],.ol (L i) (lx (lH t.aA[i]).aY (L i+1))]]=T (i+1):=fun i hi=>by
  have:=vk (base:=gX t) (l:=t.aA.map lH) (i:=i) (by rw[List.length_map];exact hi) (n+1)
  rw[List.getElem_map,vw] at this
  rw[hT,hL];exact this
 have hTr:∀i,∀r∈T i,r.length=2:=fun i=>by rw[hT];exact jc
 have hTe:T t.aA.length=lx (lQ t).aY (n+1):=by
  rw[hT];simp only
  rw[List.take_of_length_le (by simp)];rfl
 clear hT hL
 refine nk (n) 1 (rs:=[.cell 2 78]) Tryz.checked.mixed Tryz.func141 Tryz.ntmps141 rfl rfl rfl rfl rfl ?_
 simp -implicitDefEqProofs (disch:=omega) only[go_sem,ha,hs]
 refine W3 ?_
 refine C1 (bZ _ (n+1)) ?_
 refine C1 (bZ _ (n+1+1)) ?_
 refine C1 (dP t.bE (by omega) (n+1+1+1)) ?_
 refine nK (dP [] (by simp) (n+1+1+1+dB (bR (aU t.bE)))) (.cons (lq n _) .nil) ?_
 refine W1 ?_
 refine W3 ?_
 refine kW n 4 2 (T 0) (.inl ?_) (hTr 0) ?_
 ·rw[hT0];rfl
 refine kZ (L 0) ?_
 refine aR (ι:=Nat) Tryz.checked.mixed rfl [2,4,30,31,32] (fun i=>[.c (.ptr (0,3) 0),.c (.bI (0,4) (T i)),.c (.d (.sl (t.aA.map aT.enc))),.c (.d (.i .i64 t.aA.length)),.c (.d (.i .i64 i))])
  (fun i=>[.seed (L i),.seed 1,.box [.d (.s t.fName),.d (.sl (t.bE.map encS)),.d (.b false),.d (.b false),.d (.sl (t.aA.map aT.enc))],.box [.d (.s []),.bC []],.eB n 2 (T i)]::S)
  (fun i=>i≤t.aA.length) (fun i=>t.aA.length-i) 0 rfl rfl (Nat.zero_le _) ?_
 intro i hi
 have hl:=fP i
 refine W1 ?_
 refine S0 (fun hb h=>?_) fun hb h=>?_
 ·have hi':i<t.aA.length:=by omega
  have hm:=List.getElem_mem hi'
  have hcz:=tJ hm
  have hce:=aT.sum t.aA[i]
  rw[dD] at hce
  obtain⟨q1,q2,q3⟩:=oF (hso _ hm)
  have hst:=hTs i hi'
  refine W3 ?_
  refine C1 (bZ _ (L i+1)) ?_
  refine C1 (vN t.aA[i].aZ (L i+1+1) (L i+1+1+1) q1 (by omega) (fun u hu=>by have:=tH hu;omega)) ?_
  refine C1 (jo _) ?_
  refine C1 (jD t.aA[i].bU (L i+1+1+dB (bR (t.aA[i].aZ.map cK))) q2 (by omega)) ?_
  refine S0 (fun hb h=>?_) fun hb h=>?_
  ·rw[xG h] at hst
   simp only[iD,kE,iC,jl,jm,dL,cO,iP] at hst
   refine C1 (dP t.aA[i].aF (by omega) (L i+1+1+dB (bR (t.aA[i].aZ.map cK))+dB (cK t.aA[i].bU))) ?_
   refine C1 (uH t.aA[i].fBody (L i+1+1+dB (bR (t.aA[i].aZ.map cK))+dB (cK t.aA[i].bU)+dB (bR (aU t.aA[i].aF))) (q3 h) (by omega)) ?_
   refine W3 ?_
   refine C1 (jo _) ?_
   refine W3 ?_
   rw[hst]
   refine jf (L (i+1)) 4 (by decide) (i+1) (by omega) rfl rfl ?_ rfl (by omega)
   simp[gG,fH,V.refs,C.refs,iW]
  ·rw[xH h] at hst
   simp only[iD,kE,iC,jl,jm,dL,cO,iP] at hst
   refine C1 (kU _ _) ?_
   refine W3 ?_
   rw[hst]
   refine jf (L (i+1)) 4 (by decide) (i+1) (by omega) rfl rfl ?_ rfl (by omega)
   simp[gG,fH,V.refs,C.refs,iW]
 ·have hi':i=t.aA.length:=by omega
  refine dS rfl (iU 0 4 _ _) ?_
  refine W1 ?_
  rw[hi',hTe]
theorem Br(t:bg)(n:Nat)(hv:dI t=true)(hsz:t.sz≤1048576):aD Tryz.prog 141 [t.v] (.agg [.d (.s []),.d (.ol n (lx (lQ t).aY (n+1)))]):=by
 have hb:=(iV hv).2
 cases ha:t.nO with
 |true=>
  cases hs:t.bQ with
  |true=>exact absurd ⟨ha,hs⟩ hb
  |false=>exact PK t n hv hsz ha hs
 |false=>
  cases hs:t.bQ with
  |true=>exact PN t n hv hsz ha hs
  |false=>exact PO t n hv hsz ha hs
theorem Yw(t:bg)(hv:dI t=true)(hsz:t.sz≤1048576)(ha:t.nO=true)(hs:t.bQ=false):aD Tryz.prog 130 [t.v] (o7 (lQ t)).v:=fun S=>by
 have hdz:=bg.sum t
 rw[dD] at hdz
 obtain⟨hso,_⟩:=iV hv
 have hz:=Dp hv
 have hfl:mZ t=[xA]:=by unfold mZ;rw[ha,hs];rfl
 obtain⟨T,hT⟩:∃T:Nat→List (List D),T=fun i=>(gX t++(t.aA.map lH).take i).map aj.enc:=⟨_,rfl⟩
 have hT0:T 0=[[.s wu,.sl []],[.s t.fName,.sl []],[.s [],.sl ((aU t.bE).map aj.enc)],[.s [],.sl ((aU [xA]).map aj.enc)]]:=by
  rw[hT];simp only[List.take_zero,List.append_nil,gX,hfl,List.map_cons,List.map_nil,dY,iA]
 have fP:∀i,(T i).length≤i+4:=fun i=>by
  rw[hT];simp only[List.length_map,List.length_append]
  have:=List.length_take_le i (t.aA.map lH)
  simp[gX];omega
 have hTs:∀i (hi:i<t.aA.length),T i++[[.s [],.sl ((lH t.aA[i]).aY.map aj.enc)]]=T (i+1):=fun i hi=>by
  have:=gT (base:=gX t) (l:=t.aA.map lH) (i:=i) (by rw[List.length_map];exact hi)
  rw[List.getElem_map,vw] at this
  rw[hT];exact this
 have hTr:∀i,∀r∈T i,r.length=2:=fun i=>by rw[hT];exact ji
 have hTe:T t.aA.length=(lQ t).aY.map aj.enc:=by
  rw[hT];simp only
  rw[List.take_of_length_le (by simp)];rfl
 clear hT
 refine aB (rs:=[.cell 2 78]) Tryz.checked.mixed Tryz.func130 Tryz.ntmps130 rfl rfl rfl rfl rfl ?_
 refine W1 ?_
 refine bN (mY t (by omega)) ?_
 simp -implicitDefEqProofs (disch:=omega) only[go_sem,hv,ha,hs]
 refine W3 ?_
 refine C1 (bK _) ?_
 refine C1 (bK _) ?_
 refine C1 (dH t.bE (by omega)) ?_
 refine C1 (dH [xA] (by simp)) ?_
 have hE:=fun bM Ω=>iM (T 0) (hTr 0) (by have:=fP 0;omega) bM Ω
 simp only[hT0] at hE
 refine kQ [false] rfl (hE _ _) ?_
 refine W1 ?_
 refine aR (ι:=Nat) Tryz.checked.mixed rfl [1,2,4,5] (fun i=>[.c (.ptr (0,0) 0),.c (.ptr (0,1) 0),.c (.ptr (0,5) 0),.c (.d (.i .i64 i))])
  (fun i=>[.box [.d (.s t.fName),.d (.sl (t.bE.map encS)),.d (.b true),.d (.b false),.d (.sl (t.aA.map aT.enc))],.box [.d (.s []),.bC []],.tok 1 [[.s xA]],.box [.d (.s []),.bI (0,4) (T 0)],.tok 2 (T i),.box [.d (.s []),.bI (0,4) (T i)]]::S)
  (fun i=>i≤t.aA.length) (fun i=>t.aA.length-i) 0 rfl (by simp only[hT0]<;>(try rfl)) (Nat.zero_le _) ?_
 intro i hi
 have hl:=fP i
 refine W1 ?_
 refine S0 (fun hb h=>?_) fun hb h=>?_
 ·have hi':i<t.aA.length:=by omega
  have hm:=List.getElem_mem hi'
  have hcz:=tJ hm
  have hce:=aT.sum t.aA[i]
  rw[dD] at hce
  obtain⟨q1,q2,q3⟩:=oF (hso _ hm)
  have hst:=hTs i hi'
  refine W3 ?_
  refine C1 (bK _) ?_
  refine C1 (xw t.aA[i].aZ (by omega) (fun u hu=>by have:=tH hu;omega)) ?_
  refine C1 (jO t.aA[i].bU (by omega)) ?_
  refine kQ [false] rfl (iM _ (by simp) (by simp) _ _) ?_
  refine W1 ?_
  refine S0 (fun hb h=>?_) fun hb h=>?_
  ·rw[xG h] at hst
   simp only[List.map_cons,List.map_nil,dY,iA,aj.aH (cK t.aA[i].bU),aj.aH (eH t.aA[i].fBody)] at hst
   refine C1 (dH t.aA[i].aF (by omega)) ?_
   refine C1 (o9 t.aA[i].fBody (q3 h) (by omega)) ?_
   refine W3 ?_
   rw[hst]
   exact bX 6 (by decide) (i+1) (by omega) rfl rfl rfl rfl (by omega)
  ·rw[xH h] at hst
   simp only[List.map_cons,List.map_nil,dY,iA,aj.aH (cK t.aA[i].bU)] at hst
   refine W3 ?_
   rw[hst]
   exact bX 6 (by decide) (i+1) (by omega) rfl rfl rfl rfl (by omega)
 ·have hi':i=t.aA.length:=by omega
  subst hi'
  rw[hTe]
  refine C1 (nA true (lQ t) (by omega)) ?_
  rfl
theorem Yx(t:bg)(hv:dI t=true)(hsz:t.sz≤1048576)(ha:t.nO=false)(hs:t.bQ=true):aD Tryz.prog 130 [t.v] (o7 (lQ t)).v:=fun S=>by
 have hdz:=bg.sum t
 rw[dD] at hdz
 obtain⟨hso,_⟩:=iV hv
 have hz:=Dp hv
 have hfl:mZ t=[kD]:=by unfold mZ;rw[ha,hs];rfl
 obtain⟨T,hT⟩:∃T:Nat→List (List D),T=fun i=>(gX t++(t.aA.map lH).take i).map aj.enc:=⟨_,rfl⟩
 have hT0:T 0=[[.s wu,.sl []],[.s t.fName,.sl []],[.s [],.sl ((aU t.bE).map aj.enc)],[.s [],.sl ((aU [kD]).map aj.enc)]]:=by
  rw[hT];simp only[List.take_zero,List.append_nil,gX,hfl,List.map_cons,List.map_nil,dY,iA]
 have fP:∀i,(T i).length≤i+4:=fun i=>by
  rw[hT];simp only[List.length_map,List.length_append]
  have:=List.length_take_le i (t.aA.map lH)
  simp[gX];omega
 have hTs:∀i (hi:i<t.aA.length),T i++[[.s [],.sl ((lH t.aA[i]).aY.map aj.enc)]]=T (i+1):=fun i hi=>by
  have:=gT (base:=gX t) (l:=t.aA.map lH) (i:=i) (by rw[List.length_map];exact hi)
  rw[List.getElem_map,vw] at this
  rw[hT];exact this
 have hTr:∀i,∀r∈T i,r.length=2:=fun i=>by rw[hT];exact ji
 have hTe:T t.aA.length=(lQ t).aY.map aj.enc:=by
  rw[hT];simp only
  rw[List.take_of_length_le (by simp)];rfl
 clear hT
 refine aB (rs:=[.cell 2 78]) Tryz.checked.mixed Tryz.func130 Tryz.ntmps130 rfl rfl rfl rfl rfl ?_
 refine W1 ?_
 refine bN (mY t (by omega)) ?_
 simp -implicitDefEqProofs (disch:=omega) only[go_sem,hv,ha,hs]
 refine W3 ?_
 refine C1 (bK _) ?_
 refine C1 (bK _) ?_
 refine C1 (dH t.bE (by omega)) ?_
 refine C1 (dH [kD] (by simp)) ?_
 have hE:=fun bM Ω=>iM (T 0) (hTr 0) (by have:=fP 0;omega) bM Ω
 simp only[hT0] at hE
 refine kQ [false] rfl (hE _ _) ?_
 refine W1 ?_
 refine aR (ι:=Nat) Tryz.checked.mixed rfl [1,2,4,5] (fun i=>[.c (.ptr (0,0) 0),.c (.ptr (0,1) 0),.c (.ptr (0,5) 0),.c (.d (.i .i64 i))])
  (fun i=>[.box [.d (.s t.fName),.d (.sl (t.bE.map encS)),.d (.b false),.d (.b true),.d (.sl (t.aA.map aT.enc))],.box [.d (.s []),.bC []],.tok 1 [[.s kD]],.box [.d (.s []),.bI (0,4) (T 0)],.tok 2 (T i),.box [.d (.s []),.bI (0,4) (T i)]]::S)
  (fun i=>i≤t.aA.length) (fun i=>t.aA.length-i) 0 rfl (by simp only[hT0]<;>(try rfl)) (Nat.zero_le _) ?_
 intro i hi
 have hl:=fP i
 refine W1 ?_
 refine S0 (fun hb h=>?_) fun hb h=>?_
 ·have hi':i<t.aA.length:=by omega
  have hm:=List.getElem_mem hi'
  have hcz:=tJ hm
  have hce:=aT.sum t.aA[i]
  rw[dD] at hce
  obtain⟨q1,q2,q3⟩:=oF (hso _ hm)
  have hst:=hTs i hi'
  refine W3 ?_
  refine C1 (bK _) ?_
  refine C1 (xw t.aA[i].aZ (by omega) (fun u hu=>by have:=tH hu;omega)) ?_
  refine C1 (jO t.aA[i].bU (by omega)) ?_
  refine kQ [false] rfl (iM _ (by simp) (by simp) _ _) ?_
  refine W1 ?_
  refine S0 (fun hb h=>?_) fun hb h=>?_
  ·rw[xG h] at hst
   simp only[List.map_cons,List.map_nil,dY,iA,aj.aH (cK t.aA[i].bU),aj.aH (eH t.aA[i].fBody)] at hst
   refine C1 (dH t.aA[i].aF (by omega)) ?_
   refine C1 (o9 t.aA[i].fBody (q3 h) (by omega)) ?_
   refine W3 ?_
   rw[hst]
   exact bX 6 (by decide) (i+1) (by omega) rfl rfl rfl rfl (by omega)
  ·rw[xH h] at hst
   simp only[List.map_cons,List.map_nil,dY,iA,aj.aH (cK t.aA[i].bU)] at hst
   refine W3 ?_
   rw[hst]
   exact bX 6 (by decide) (i+1) (by omega) rfl rfl rfl rfl (by omega)
 ·have hi':i=t.aA.length:=by omega
  subst hi'
  rw[hTe]
  refine C1 (nA true (lQ t) (by omega)) ?_
  rfl
theorem Yy(t:bg)(hv:dI t=true)(hsz:t.sz≤1048576)(ha:t.nO=false)(hs:t.bQ=false):aD Tryz.prog 130 [t.v] (o7 (lQ t)).v:=fun S=>by
 have hdz:=bg.sum t
 rw[dD] at hdz
 obtain⟨hso,_⟩:=iV hv
 have hz:=Dp hv
 have hfl:mZ t=[]:=by unfold mZ;rw[ha,hs];rfl
 obtain⟨T,hT⟩:∃T:Nat→List (List D),T=fun i=>(gX t++(t.aA.map lH).take i).map aj.enc:=⟨_,rfl⟩
 have hT0:T 0=[[.s wu,.sl []],[.s t.fName,.sl []],[.s [],.sl ((aU t.bE).map aj.enc)],[.s [],.sl ((aU []).map aj.enc)]]:=by
  rw[hT];simp only[List.take_zero,List.append_nil,gX,hfl,List.map_cons,List.map_nil,dY,iA]
 have fP:∀i,(T i).length≤i+4:=fun i=>by
  rw[hT];simp only[List.length_map,List.length_append]
  have:=List.length_take_le i (t.aA.map lH)
  simp[gX];omega
 have hTs:∀i (hi:i<t.aA.length),T i++[[.s [],.sl ((lH t.aA[i]).aY.map aj.enc)]]=T (i+1):=fun i hi=>by
  have:=gT (base:=gX t) (l:=t.aA.map lH) (i:=i) (by rw[List.length_map];exact hi)
  rw[List.getElem_map,vw] at this
  rw[hT];exact this
 have hTr:∀i,∀r∈T i,r.length=2:=fun i=>by rw[hT];exact ji
 have hTe:T t.aA.length=(lQ t).aY.map aj.enc:=by
  rw[hT];simp only
  rw[List.take_of_length_le (by simp)];rfl
 clear hT
 refine aB (rs:=[.cell 2 78]) Tryz.checked.mixed Tryz.func130 Tryz.ntmps130 rfl rfl rfl rfl rfl ?_
 refine W1 ?_
 refine bN (mY t (by omega)) ?_
 simp -implicitDefEqProofs (disch:=omega) only[go_sem,hv,ha,hs]
 refine W3 ?_
 refine C1 (bK _) ?_
 refine C1 (bK _) ?_
 refine C1 (dH t.bE (by omega)) ?_
 refine C1 (dH [] (by simp)) ?_
 have hE:=fun bM Ω=>iM (T 0) (hTr 0) (by have:=fP 0;omega) bM Ω
 simp only[hT0] at hE
 refine kQ [false] rfl (hE _ _) ?_
 refine W1 ?_
 refine aR (ι:=Nat) Tryz.checked.mixed rfl [1,2,4,5] (fun i=>[.c (.ptr (0,0) 0),.c (.ptr (0,1) 0),.c (.ptr (0,4) 0),.c (.d (.i .i64 i))])
  (fun i=>[.box [.d (.s t.fName),.d (.sl (t.bE.map encS)),.d (.b false),.d (.b false),.d (.sl (t.aA.map aT.enc))],.box [.d (.s []),.bC []],.box [.d (.s []),.bI (0,3) (T 0)],.tok 2 (T i),.box [.d (.s []),.bI (0,3) (T i)]]::S)
  (fun i=>i≤t.aA.length) (fun i=>t.aA.length-i) 0 rfl (by simp only[hT0]<;>(try rfl)) (Nat.zero_le _) ?_
 intro i hi
 have hl:=fP i
 refine W1 ?_
 refine S0 (fun hb h=>?_) fun hb h=>?_
 ·have hi':i<t.aA.length:=by omega
  have hm:=List.getElem_mem hi'
  have hcz:=tJ hm
  have hce:=aT.sum t.aA[i]
  rw[dD] at hce
  obtain⟨q1,q2,q3⟩:=oF (hso _ hm)
  have hst:=hTs i hi'
  refine W3 ?_
  refine C1 (bK _) ?_
  refine C1 (xw t.aA[i].aZ (by omega) (fun u hu=>by have:=tH hu;omega)) ?_
  refine C1 (jO t.aA[i].bU (by omega)) ?_
  refine kQ [false] rfl (iM _ (by simp) (by simp) _ _) ?_
  refine W1 ?_
  refine S0 (fun hb h=>?_) fun hb h=>?_
  ·rw[xG h] at hst
   simp only[List.map_cons,List.map_nil,dY,iA,aj.aH (cK t.aA[i].bU),aj.aH (eH t.aA[i].fBody)] at hst
   refine C1 (dH t.aA[i].aF (by omega)) ?_
   refine C1 (o9 t.aA[i].fBody (q3 h) (by omega)) ?_
   refine W3 ?_
   rw[hst]
   exact bX 5 (by decide) (i+1) (by omega) rfl rfl rfl rfl (by omega)
  ·rw[xH h] at hst
   simp only[List.map_cons,List.map_nil,dY,iA,aj.aH (cK t.aA[i].bU)] at hst
   refine W3 ?_
   rw[hst]
   exact bX 5 (by decide) (i+1) (by omega) rfl rfl rfl rfl (by omega)
 ·have hi':i=t.aA.length:=by omega
  subst hi'
  rw[hTe]
  refine C1 (nA true (lQ t) (by omega)) ?_
  rfl
theorem J9(t:bg)(hsz:t.sz≤1048576):aD Tryz.prog 130 [t.v] (r9 t).v:=by
 unfold r9
 cases hv:dI t with
 |false=>
  rw[qX]
  refine aD.less (fun S=> ?_) (vo [] [])
  refine aB (rs:=[.cell 2 78]) Tryz.checked.mixed Tryz.func130 Tryz.ntmps130 rfl rfl rfl rfl rfl ?_
  refine W1 ?_
  refine bN (mY t (by omega)) ?_
  simp -implicitDefEqProofs (disch:=omega) only[go_sem,hv]
 |true=>
  rw[qX]
  have hb:=(iV hv).2
  cases ha:t.nO with
  |true=>
   cases hs:t.bQ with
   |true=>exact absurd ⟨ha,hs⟩ hb
   |false=>exact Yw t hv hsz ha hs
  |false=>
   cases hs:t.bQ with
   |true=>exact Yx t hv hsz ha hs
   |false=>exact Yy t hv hsz ha hs
end Go.Proofs.YtcfhnaohbaplhaaGreatDoor
namespace Go.Ab
noncomputable def kF(m:bB):Bool:=dec (1≤m.aF.length)&&(dec (m.aF.length≤5)&&nM m.aF m.fBody)
noncomputable def jQ(x:aQ):List (List UInt8):=x.aL.map bB.fName
noncomputable def rC(x:aQ):Bool:=validName x.bJ&&(dec (x.aF.length≤3)&&(gQ x.aF&&(fF x.aF x.bV&&(!nS x.bV&&(dec (x.bV.aV=2∨x.bV.aV=1)&&(among x.aF (iB [] x.bV)&&(mR x.aF x.bY&&((if x.fA=true then fF x.aF x.bQ else dec (uy x.bQ))&&dec (x.aL.length≤6)))))))))
noncomputable def eD(x:aQ):Bool:=rC x&&(x.aL.all kF&&gQ (jQ x))
theorem aQ.sum(x:aQ):x.bJ.length+(x.aF.length+aI (x.aF.map encS))+x.bV.sz+(x.bY.length+aI (x.bY.map bA.enc))+x.bQ.sz+(x.aL.length+aI (x.aL.map bB.enc))≤x.sz:=by
 simp only[aQ.sz,aQ.aH,bH,bf,D.sz,List.length_map,ah.cZ]
 omega
theorem bB.sum(x:bB):x.fName.length+(x.aF.length+aI (x.aF.map encS))+x.fBody.sz≤x.sz:=by
 simp only[bB.sz,bB.aH,bH,bf,D.sz,List.length_map,au.cZ]
 omega
theorem vB{xs:List bB}{t:bB}(h:t∈xs):t.sz≤aI (xs.map bB.enc):=bD (List.mem_map_of_mem h)
theorem Ka(v:List UInt8):∀(us:List ah) (out:List (List UInt8)),v∈us.foldl qH out↔v∈out∨0<us.countP (FV v)
 |[],out=>by simp
 |u::us,out=>by
  rw[List.foldl_cons,Ka v us,List.countP_cons]
  have h:v∈qH out u↔v∈out∨FV v u=true:=by
   unfold qH FV
   split
   ·rename_i h
    simp only[List.mem_append,List.mem_singleton]
    constructor
    ·rintro(h1|h1)
     ·exact .inl h1
     ·right;simp[h1,h.1]
    ·rintro(h1|h1)
     ·exact .inl h1
     ·right;simp at h1;exact h1.2.symm
   ·rename_i h
    constructor
    ·exact .inl
    ·rintro(h1|h1)
     ·exact h1
     ·simp at h1
      by_cases e:u.fName∈out
      ·rw[←h1.2];exact e
      ·exact absurd ⟨h1.1,e⟩ h
  rw[h]
  cases FV v u<;>simp
theorem Tk(v:List UInt8)(t:ah):occurs v t=dec (v∈iB [] t):=by
 unfold occurs iB nI
 rw[lW]
 exact gP (by rw[Ka];simp)
theorem Tm{t:ah}(h:lg t=true):t.aV=1∨t.aV=2∨t.aV=3∨t.aV=4:=by
 have h1:=(iO h).1
 rw[sS,Bool.and_eq_true] at h1
 have h2:=iO h1.1
 omega
theorem VR{t:ah}(h:nS t=false):t.aV≠3:=by
 rw[Ar] at h
 intro e
 simp[e] at h
end Go.Ab
namespace Go.Proofs.YtcfhnaohbaplhaaGreatDoor
open Go Go.Ab
set_option maxHeartbeats 2000000 in
theorem EW(x:aQ)(hsz:x.sz≤4194304):aD Tryz.prog 174 [x.v] (.c (.d (.b (eD x)))):=fun S=>by
 have hs:=aQ.sum x
 have hV:∀s∈x.aF,s.length≤4194304:=fun s h=>by have:=nZ h;omega
 have hW:∀b∈x.bY,b.sz≤4194304:=fun b h=>by have:=mM h;omega
 have hM:∀m∈x.aL,m.sz≤4194304:=fun m h=>by have:=vB h;omega
 have no:rC x=false→V.c (.d (.b false))=V.c (.d (.b (eD x))):=fun h=>ay (by unfold eD;rw[h];rfl)
 refine(show Hold (rC x=true→ ?T)→_ from fun tail=> ?main) ?tp
 case' main=>
  refine aB (rs:=[.tmp 2]) Tryz.checked.mixed Tryz.func174 Tryz.ntmps174 rfl rfl rfl rfl rfl ?_
  refine W1 ?_
  repeat' (first
   |refine S0 (fun hb h=>?_) fun hb h=>?_
   |((with_reducible show dX _ _ 168 _ _ _ _);refine bN (fT x.bJ (by omega)) ?_;refine W1 ?_)
   |((with_reducible show dX _ _ 169 _ _ _ _);refine bN (lX x.aF (by omega) hV) ?_;refine W1 ?_)
   |((with_reducible show dX _ _ 261 _ _ _ _);refine bN (qg x.bV x.aF (by omega) (by omega)) ?_;refine W1 ?_)
   |((with_reducible show dX _ _ 261 _ _ _ _);refine bN (qg x.bQ x.aF (by omega) (by omega)) ?_;refine W1 ?_)
   |((with_reducible show dX _ _ 262 _ _ _ _);refine bN (zK x.bV (by omega)) ?_;refine W1 ?_)
   |((with_reducible show dX _ _ 264 _ _ _ _);refine bN (uj x.bV (by omega)) ?_;refine W1 ?_)
   |((with_reducible show dX _ _ 263 _ _ _ _);refine bN (vL x.aF (iB [] x.bV) (by omega) (G8 _ (by omega))) ?_;refine W1 ?_)
   |((with_reducible show dX _ _ 265 _ _ _ _);refine bN (CK x.bY x.aF (by omega) hW (by omega)) ?_;refine W1 ?_)
   |((with_reducible show dX _ _ 266 _ _ _ _);refine bN (Bo x.bQ) ?_;refine W1 ?_)
   |(refine no ?_;unfold rC;grind [iO,iK,bq,aC]))
  all_goals
   have hh:rC x=true:=by unfold rC;grind [iO,iK,bq,aC]
   refine W3 ?_
   refine l9 3 1 [] rfl (by simp) ?_
   refine oD (st':=[.box (x.enc.map .d),.tok 1 []]::S) [3,91,92,93] [.c (.bI (0,1) []),.c (.d (.sl (x.aL.map bB.enc))),.c (.d (.i .i64 x.aL.length)),.c (.d (.i .i64 0))] ?_ ?_ ?_
   ·rfl
   ·first|(refine W1 ?_;done)|(refine W1 ?_;simp[*])
   ·exact tail.out hh
 refine⟨fun hh=> ?_⟩
 have bad:∀i,∀hi:i<x.aL.length,kF x.aL[i]=false→V.c (.d (.b false))=V.c (.d (.b (eD x))):=fun i hi h=>by
  have:x.aL.all kF=false:=Bool.eq_false_iff.2 fun hx=>by
   rw[List.all_eq_true.1 hx _ (List.getElem_mem hi)] at h;cases h
  unfold eD
  rw[this];simp
 refine aR (ι:=Nat×List (List UInt8)) Tryz.checked.mixed rfl [3,91,92,93] (fun y=>[.c (.bI (0,1) (y.2.map encS)),.c (.d (.sl (x.aL.map bB.enc))),.c (.d (.i .i64 x.aL.length)),.c (.d (.i .i64 y.1))]) (fun y=>[.box (x.enc.map .d),.tok 1 (y.2.map encS)]::S)
  (fun y=>y.1≤x.aL.length∧y.2=(jQ x).take y.1∧∀j,∀hj:j<x.aL.length,j<y.1→kF x.aL[j]=true) (fun y=>x.aL.length-y.1) (0,[]) rfl ?_ ⟨Nat.zero_le _,rfl,fun j _ h=>by simp only at h;omega⟩ ?_
 ·exact Z1
 rintro⟨i,names⟩ ⟨p1,p2,p3⟩
 simp only at p1 p2 p3
 have pl:names.length≤x.aL.length:=by rw[p2];simp[jQ];omega
 refine W1 ?_
 refine S0 (fun hb h=>?_) fun hb h=>?_
 ·have hi:i<x.aL.length:=by omega
  have hm:=hM _ (List.getElem_mem hi)
  have hms:=bB.sum x.aL[i]
  have hmv:∀s∈x.aL[i].aF,s.length≤4194304:=fun s h=>by have:=nZ h;omega
  refine W3 ?_
  refine S0 (fun hb h=>?_) fun hb h=>?_
  ·exact bad i hi (by unfold kF;rw[aC (by omega)];rfl)
  refine W3 ?_
  refine S0 (fun hb h=>?_) fun hb h=>?_
  ·exact bad i hi (by unfold kF;rw[aC (show ¬x.aL[i].aF.length≤5 by omega)];simp)
  refine W3 ?_
  refine C2 (CJ x.aL[i].aF x.aL[i].fBody (by omega) hmv (by omega)) ?_
  refine S0 (fun hb h=>?_) fun hb h=>?_
  ·exact bad i hi (by unfold kF;rw[h];simp)
  have k2:=h
  have k3:kF x.aL[i]=true:=by unfold kF;rw[k2,bq (by omega),bq (by omega)];rfl
  refine W3 ?_
  rw[show List.map encS names++[[D.s x.aL[i].fName]]=List.map encS (names++[x.aL[i].fName]) by simp[encS]]
  exact bX 2 (by decide) (i+1,names++[x.aL[i].fName]) (by simp only;omega) rfl rfl rfl rfl ⟨by simp only;omega,by simp only;rw[p2,gI (by simpa [jQ] using hi)];simp[jQ],fun j hj hji=>by
   simp only at hji
   by_cases e:j=i
   ·subst e;exact k3
   ·exact p3 j hj (by omega)⟩
 have hi:i=x.aL.length:=by omega
 have hn:names=jQ x:=by rw[p2,List.take_of_length_le (by simp[jQ];omega)]
 have hall:x.aL.all kF=true:=List.all_eq_true.2 fun c hc=>by
  obtain⟨j,hj,e⟩:=List.getElem_of_mem hc
  rw[←e];exact p3 j hj (by omega)
 have hnl:∀s∈names,s.length≤4194304:=fun s hm=>by
  rw[hn] at hm
  obtain⟨g,hg,e⟩:=List.mem_map.1 hm
  have:=hM g hg
  have:=bB.sum g
  rw[←e];omega
 refine C2 (lX names (by omega) hnl) ?_
 exact ay (by unfold eD;rw[hh,hall,hn];rfl)
set_option maxHeartbeats 2000000 in
theorem lS(x:aQ)(hsz:x.sz≤4194304):aD Tryz.prog 220 [x.v] (.c (.d (.b (eD x)))):=fun S=>by
 have hs:=aQ.sum x
 have hV:∀s∈x.aF,s.length≤4194304:=fun s h=>by have:=nZ h;omega
 have hW:∀b∈x.bY,b.sz≤4194304:=fun b h=>by have:=mM h;omega
 have hM:∀m∈x.aL,m.sz≤4194304:=fun m h=>by have:=vB h;omega
 have bad:x.aL.all kF=false→V.c (.d (.b false))=V.c (.d (.b (eD x))):=fun h=>ay (by unfold eD;rw[h];simp)
 have no:rC x=false→V.c (.d (.b false))=V.c (.d (.b (eD x))):=fun h=>ay (by unfold eD;rw[h];rfl)
 have hk:fF x.aF x.bV=true→nS x.bV=false→(x.bV.aV=1∨x.bV.aV=2∨x.bV.aV=4):=fun h1 h2=>by
  unfold fF at h1
  rw[Bool.and_eq_true] at h1
  have:=Tm h1.1
  have:=VR h2
  omega
 refine aB (rs:=[.tmp 2]) Tryz.checked.mixed Tryz.func220 Tryz.ntmps220 rfl rfl rfl rfl rfl ?_
 refine W1 ?_
 repeat' (first
  |refine S0 (fun hb h=>?_) fun hb h=>?_
  |((with_reducible show dX _ _ 159 _ _ _ _);refine bN (fU x.bJ (by omega)) ?_;refine W1 ?_)
  |((with_reducible show dX _ _ 160 _ _ _ _);refine bN (jX x.aF 3 (by omega) hV) ?_;refine W1 ?_)
  |((with_reducible show dX _ _ 303 _ _ _ _);refine bN (pR x.bV x.aF (by omega) (by omega)) ?_;refine W1 ?_)
  |((with_reducible show dX _ _ 304 _ _ _ _);refine bN (zJ x.bV (by omega)) ?_;refine W1 ?_)
  |((with_reducible show dX _ _ 305 _ _ _ _);refine bN (Ec x.bY x.aF (by omega) hW (by omega)) ?_;refine W1 ?_)
  |(refine no ?_;unfold rC;grind [iO,iK,bq,aC]))
 all_goals
  have h1:validName x.bJ=true:=by assumption
  have h2:(dec ((x.aF.length:Int)≤3)&&gQ x.aF)=true:=by assumption
  have h3:fF x.aF x.bV=true:=by assumption
  have h4:nS x.bV=false:=by assumption
  have h5:¬x.bV.aV=4:=by assumption
  have h6:mR x.aF x.bY=true:=by assumption
 have h7:=hk h3 h4
 clear hk
 rw[Bool.and_eq_true] at h2
 have h8:=iO h2.1
 have pre:rC x=(among x.aF (iB [] x.bV)&&((if x.fA=true then fF x.aF x.bQ else dec (uy x.bQ))&&dec (x.aL.length≤6))):=by
  unfold rC
  rw[h1,h2.2,h3,h4,h6,bq (show x.aF.length≤3 by omega),bq (show x.bV.aV=2∨x.bV.aV=1 by omega)]
  simp
 clear h1 h2 h3 h4 h5 h6 h7 h8
 refine aR (ι:=Nat) Tryz.checked.mixed rfl [1,3] (fun i=>[.c (.ptr (0,0) 0),.c (.d (.i .i64 i))]) (fun _=>[.box (x.enc.map .d)]::S)
  (fun i=>i≤x.aF.length∧among (x.aF.drop i) (iB [] x.bV)=among x.aF (iB [] x.bV)) (fun i=>x.aF.length-i) 0 rfl ?_ ⟨Nat.zero_le _,rfl⟩ ?_
 ·exact Z1
 rintro i ⟨p1,p2⟩
 simp -implicitDefEqProofs (disch:=omega) only[go_sem,encS]
 with_reducible refine eY (fun hb=> ?_) (fun hb=> ?_)<;>have h:=hb<;>(try simp only[wf_preprocess] at h)<;>simp -implicitDefEqProofs (disch:=omega) only[go_sem,hb,encS]<;>refine W3 ?_
 ·have hi:i<x.aF.length:=by omega
  rw[List.drop_eq_getElem_cons hi] at p2
  have p3:among x.aF (iB [] x.bV)=(dec (x.aF[i]∈iB [] x.bV)&&among (x.aF.drop (i+1)) (iB [] x.bV)):=p2.symm
  refine W3 ?_
  refine C2 (KL x.aF[i] x.bV (by omega)) ?_
  rw[Tk]
  refine S0 (fun hb h=>?_) fun hb h=>?_
  ·exact no (by rw[pre,p3,aC h];rfl)
  ·exact bF (i+1) (by omega) rfl rfl ⟨by omega,by rw[p3,bq h];rfl⟩
 rw[List.drop_of_length_le (by omega)] at p2
 have p3:among x.aF (iB [] x.bV)=true:=p2.symm
 rw[p3,Bool.true_and] at pre
 refine(show Hold ((if x.fA=true then fF x.aF x.bQ else dec (uy x.bQ))=true→ ?T)→_ from fun tail=> ?main) ?tp
 case' main=>
  repeat' (first
   |refine S0 (fun hb h=>?_) fun hb h=>?_
   |((with_reducible show dX _ _ 303 _ _ _ _);refine bN (pR x.bQ x.aF (by omega) (by omega)) ?_;refine W1 ?_)
   |((with_reducible show dX _ _ 284 _ _ _ _);refine bN (GX x.bQ) ?_;refine W1 ?_)
   |(refine no ?_;rw[pre];grind [iO,iK,bq,aC]))
  all_goals
   have hh:(if x.fA=true then fF x.aF x.bQ else dec (uy x.bQ))=true:=by grind [iO,iK,bq,aC]
   refine W3 ?_
   refine l9 4 1 [] rfl (by simp) ?_
   refine oD (st':=[.box (x.enc.map .d),.tok 1 []]::S) [1,4,5] [.c (.ptr (0,0) 0),.c (.bI (0,1) []),.c (.d (.i .i64 0))] ?_ ?_ ?_
   ·rfl
   ·first|(refine W1 ?_;done)|(refine W1 ?_;simp[*])
   ·exact tail.out hh
 refine⟨fun hh=> ?_⟩
 rw[hh,Bool.true_and] at pre
 clear p2 p3 p1 hh no
 have Yz:∀i,∀hi:i<x.aL.length,kF x.aL[i]=false→V.c (.d (.b false))=V.c (.d (.b (eD x))):=fun i hi h=>bad (Bool.eq_false_iff.2 fun hx=>by
  rw[List.all_eq_true.1 hx _ (List.getElem_mem hi)] at h;cases h)
 refine aR (ι:=Nat×List (List UInt8)) Tryz.checked.mixed rfl [1,4,5] (fun y=>[.c (.ptr (0,0) 0),.c (.bI (0,1) (y.2.map encS)),.c (.d (.i .i64 y.1))]) (fun y=>[.box (x.enc.map .d),.tok 1 (y.2.map encS)]::S)
  (fun y=>y.1≤x.aL.length∧y.2=(jQ x).take y.1∧∀j,∀hj:j<x.aL.length,j<y.1→kF x.aL[j]=true) (fun y=>x.aL.length-y.1) (0,[]) rfl ?_ ⟨Nat.zero_le _,rfl,fun j _ h=>by simp only at h;omega⟩ ?_
 ·exact Z1
 rintro⟨i,names⟩ ⟨p1,p2,p3⟩
 simp only at p1 p2 p3
 have pl:names.length≤x.aL.length:=by rw[p2];simp[jQ];omega
 refine W1 ?_
 refine S0 (fun hb h=>?_) fun hb h=>?_
 ·have hi:i<x.aL.length:=by omega
  have hm:=hM _ (List.getElem_mem hi)
  have hms:=bB.sum x.aL[i]
  have hmv:∀s∈x.aL[i].aF,s.length≤4194304:=fun s h=>by have:=nZ h;omega
  refine W3 ?_
  refine S0 (fun hb h=>?_) fun hb h=>?_
  ·exact Yz i hi (by unfold kF;rw[aC (by omega)];rfl)
  refine W3 ?_
  refine C2 (jX x.aL[i].aF 5 (by omega) hmv) ?_
  refine S0 (fun hb h=>?_) fun hb h=>?_
  ·refine Yz i hi ?_
   unfold kF nM
   have:(dec (x.aL[i].aF.length≤5)&&gQ x.aL[i].aF)=false:=by
    rw[←h];congr 1;exact gP ⟨fun h=>by omega,fun h=>by omega⟩
   rw[←Bool.and_assoc (dec (x.aL[i].aF.length≤5)),this];simp
  have k1:=h
  rw[Bool.and_eq_true] at k1
  have k4:=iO k1.1
  refine W3 ?_
  refine C2 (A8 x.aL[i].aF x.aL[i].fBody (by omega) (by omega)) ?_
  refine S0 (fun hb h=>?_) fun hb h=>?_
  ·exact Yz i hi (by unfold kF nM;rw[h];simp)
  have k2:=h
  have k3:kF x.aL[i]=true:=by unfold kF nM;rw[k2,k1.2,bq (by omega),bq (by omega)];rfl
  refine W3 ?_
  rw[show List.map encS names++[[D.s x.aL[i].fName]]=List.map encS (names++[x.aL[i].fName]) by simp[encS]]
  exact bX 2 (by decide) (i+1,names++[x.aL[i].fName]) (by simp only;omega) rfl rfl rfl rfl ⟨by simp only;omega,by simp only;rw[p2,gI (by simpa [jQ] using hi)];simp[jQ],fun j hj hji=>by
   simp only at hji
   by_cases e:j=i
   ·subst e;exact k3
   ·exact p3 j hj (by omega)⟩
 have hi:i=x.aL.length:=by omega
 have hn:names=jQ x:=by rw[p2,List.take_of_length_le (by simp[jQ];omega)]
 have hall:x.aL.all kF=true:=List.all_eq_true.2 fun c hc=>by
  obtain⟨j,hj,e⟩:=List.getElem_of_mem hc
  rw[←e];exact p3 j hj (by omega)
 have hnl:∀s∈names,s.length≤4194304:=fun s hm=>by
  rw[hn] at hm
  obtain⟨g,hg,e⟩:=List.mem_map.1 hm
  have:=hM g hg
  have:=bB.sum g
  rw[←e];omega
 have hlen:names.length=x.aL.length:=by rw[hn];simp[jQ]
 refine C2 (jX names 6 (by omega) hnl) ?_
 refine ay ?_
 unfold eD
 rw[pre,hall,hn,Bool.true_and]
 congr 1
 rw[←hn,hlen]
 exact gP ⟨fun h=>by omega,fun h=>by omega⟩
end Go.Proofs.YtcfhnaohbaplhaaGreatDoor
namespace Go.Ab
def uQ(P:Program)(N:Nat)(g:St→St):Nat→Code→(Exit→St→Prop)→St→Prop
 |0,c,Q,s=>CW P N c Q (g s)
 |k+1,.seq x y,Q,s=>CW P N x (lF (uQ P N g k y Q) Q) s
 |_,_,_,_=>False
theorem NS{P:Program}{N:Nat}{g:St→St}{c:Code}{Q:Exit→St→Prop}{s:St}:uQ P N g 0 c Q s=CW P N c Q (g s):=by rw[uQ]
theorem vC{P:Program}{N k:Nat}{g:St→St}{x y:Code}{Q:Exit→St→Prop}{s:St}:uQ P N g (k+1) (.seq x y) Q s=CW P N x (lF (uQ P N g k y Q) Q) s:=by rw[uQ]
theorem YA{P:Program}{N:Nat}{g:St→St}{x y:Code}{Q:Exit→St→Prop}{s:St}:uQ P N g 5 (.seq x y) Q s=CW P N x (lF (uQ P N g 4 y Q) Q) s:=vC
theorem YB{P:Program}{N:Nat}{g:St→St}{x y:Code}{Q:Exit→St→Prop}{s:St}:uQ P N g 4 (.seq x y) Q s=CW P N x (lF (uQ P N g 3 y Q) Q) s:=vC
theorem VT{P:Program}{N:Nat}{g:St→St}{x y:Code}{Q:Exit→St→Prop}{s:St}:uQ P N g 3 (.seq x y) Q s=CW P N x (lF (uQ P N g 2 y Q) Q) s:=vC
theorem aar{P:Program}{N:Nat}{g:St→St}{x y:Code}{Q:Exit→St→Prop}{s:St}:uQ P N g 2 (.seq x y) Q s=CW P N x (lF (uQ P N g 1 y Q) Q) s:=vC
theorem aas{P:Program}{N:Nat}{g:St→St}{x y:Code}{Q:Exit→St→Prop}{s:St}:uQ P N g 1 (.seq x y) Q s=CW P N x (lF (uQ P N g 0 y Q) Q) s:=vC
attribute [go_sem] NS YA YB VT aar aas
theorem Kc{P:Program}{N:Nat}{g:St→St}(hg:∀s,gJ N s (g s))(jv:P.follows .mixedOrders=true):∀(k:Nat) (c:Code) (Q:Exit→St→Prop) (s:St),codeOk N c=true→uQ P N g k c Q s→AW P N c Q s
 |0,c,Q,s,ok,h=>by
  rw[NS] at h
  exact oq (lN jv c Q _ ok h) (hg s)
 |k+1,.seq x y,Q,s,ok,h=>by
  rw[vC] at h
  simp only[codeOk,Bool.and_eq_true] at ok
  refine TV (AW.mono (lN jv x _ s ok.1 h) fun e s' h'=> ?_)
  cases e with
  |normal=>exact Kc hg jv k y Q s' ok.2 h'
  |_=>exact h'
 |k+1,.region ..,_,_,_,h=>h.elim
 |k+1,.cond ..,_,_,_,h=>h.elim
 |k+1,.block ..,_,_,_,h=>h.elim
 |k+1,.exit ..,_,_,_,h=>h.elim
 |k+1,.ret,_,_,_,h=>h.elim
 |k+1,.skip,_,_,_,h=>h.elim
 |k+1,.loop ..,_,_,_,h=>h.elim
theorem vO{P:Program}{S:Store}{N:Nat}(n k n' pos:Nat){f:FuncId}{fn:Func}{c:Code}{args:List V}{post:V→Store→Prop}{rs:List ResultVar}(jv:P.follows .mixedOrders=true)(hf:P.funcs[f]? =some fn)(hN:fn.ntmps=N)
 (hb:fn.body=some c) (hn:(fn.name== "runtime.NumGoroutine")=false) (hr:fn.results.toList=rs) (hl:Nat.ble args.length N=true) (hok:codeOk N c=true)
 (h:uQ P N (yE n') pos c (Nl P n rs post) ⟨nV (args.map (V.up 1)) 0,[.seed n,.seed k]::S⟩):dG P f args S post:=by
 subst hN
 subst hr
 exact vF hf hb hn (Nat.le_of_ble_eq_true hl) (Nr n k (xW (yx n) (Kc (zT n') jv pos c _ _ hok h)))
def Ba:List UInt8:=[105,110,115,116]
def kV:List UInt8:=[100,101,102,97,117,108,116]
def jH(x:aQ):List (List UInt8):=if x.iT=true then [kV] else []
def jZ(x:aQ):List aj:=if x.fA=true then [cK x.bQ] else []
def mU(m:bB):aj:=bR [bO m.fName,bR (aU m.aF),eH m.fBody]
def kG(x:aQ):List aj:=[bO Ba,bO x.bJ,bR (aU x.aF),cK x.bV,bR (x.bY.map nP),bR (aU (jH x)),bR (jZ x)]
def rD(x:aQ):aj:=bR (kG x++x.aL.map mU)
noncomputable def zq(x:aQ):aj:=qX (eD x) (rD x)
theorem aat(m:bB)(hok:gW m.fBody=true):(mU m).sz≤27+32*m.sz:=by
 have h1:=Cu m.fBody hok
 have h3:=bB.sum m
 rw[dD] at h3
 rw[mU,iL]
 simp[fB,iR,iL,iH,ny];omega
theorem NT:∀l:List bB,(∀g∈l,gW g.fBody=true)→fB (l.map mU)≤27*l.length+32*aI (l.map bB.enc)
 |[],_=>by simp[fB]
 |c::l,h=>by
  have h1:=aat c (h c (List.mem_cons_self ..))
  have h2:=NT l fun g hg=>h g (List.mem_cons_of_mem _ hg)
  rw[List.map_cons,fB,List.map_cons,aI,List.length_cons];simp only[bB.sz] at h1;omega
theorem mO{x:aQ}(h:eD x=true):formed x.bV=true∧(∀b∈x.bY,formed b.fType=true)∧(x.fA=true→formed x.bQ=true)∧(∀m∈x.aL,gW m.fBody=true):=by
 unfold eD rC at h
 simp only[Bool.and_eq_true] at h
 obtain⟨⟨_,_,_,h1,_,_,_,h2,h3,_⟩,h4,_⟩:=h
 refine⟨qK h1,wS h2,fun ha=> ?_,fun m hm=> ?_⟩
 ·rw[if_pos ha] at h3;exact qK h3
 ·have h5:=List.all_eq_true.1 h4 m hm
  unfold kF at h5
  simp only[Bool.and_eq_true] at h5
  exact CO h5.2.2
theorem CP{x:aQ}(hok:eD x=true):(rD x).sz≤96+40*x.sz:=by
 obtain⟨_,_,_,hm⟩:=mO hok
 have h1:=NT x.aL hm
 have h2:=I9 x.bY
 have h3:=aQ.sum x
 have h4:=wh x.bV
 have h5:=wh x.bQ
 have h6:(jH x).length≤1∧((jH x).map List.length).sum≤7:=by unfold jH;split<;>simp[kV]
 have h7:(jZ x).length≤1∧fB (jZ x)≤(cK x.bQ).sz:=by unfold jZ;split<;>simp[fB]
 rw[dD] at h3
 rw[rD,iL,gK,List.length_append,List.length_map]
 simp[kG,fB,iR,iL,iH,ny,Ba];omega
theorem Tn(n:Nat)(a b:List UInt8)(w v:List (List UInt8))(h:aj)(bs zs:List aj):lx [bO a,bO b,bR (aU w),h,bR bs,bR (aU v),bR zs] (n+1)=[[.s a,.ol (n+1) []],[.s b,.ol (n+1+1) []],[.s [],.ol (n+1+1+1) (lx (aU w) (n+1+1+1+1))],[.s h.bS,.ol (n+1+1+1+dB (bR (aU w))) (lx h.aY (n+1+1+1+dB (bR (aU w))+1))],[.s [],.ol (n+1+1+1+dB (bR (aU w))+dB h) (lx bs (n+1+1+1+dB (bR (aU w))+dB h+1))],
 [.s [],.ol (n+1+1+1+dB (bR (aU w))+dB h+dB (bR bs)) (lx (aU v) (n+1+1+1+dB (bR (aU w))+dB h+dB (bR bs)+1))],[.s [],.ol (n+1+1+1+dB (bR (aU w))+dB h+dB (bR bs)+dB (bR (aU v))) (lx zs (n+1+1+1+dB (bR (aU w))+dB h+dB (bR bs)+dB (bR (aU v))+1))]]:=by
 simp only[iD,kE,iC,jl,jm,dL,cO,iP]
theorem NU(n:Nat)(es:List (List D)):Less (.c (.d (.ol n es))) (.c (.d (.sl es))):=fun w σ S β v h=>⟨vR h.1,h.2⟩
end Go.Ab
namespace Go.Proofs.YtcfhnaohbaplhaaGreatDoor
open Go Go.Ab
set_option maxHeartbeats 4000000 in
theorem CQ(x:aQ)(n:Nat)(hv:eD x=true)(hsz:x.sz≤1048576):aD Tryz.prog 143 [x.v] (.agg [.d (.s []),.d (.ol n (lx (rD x).aY (n+1)))]):=fun S=>by
 have hdz:=aQ.sum x
 rw[dD] at hdz
 obtain⟨hf1,hf2,hf3,y7⟩:=mO hv
 obtain⟨p,hp⟩:∃p:Nat,p=n+1+1+1+dB (bR (aU x.aF))+dB (cK x.bV)+dB (bR (x.bY.map nP))+dB (bR (aU (jH x))):=⟨_,rfl⟩
 obtain⟨L,hL⟩:∃L:Nat→Nat,L=fun i=>n+1+gD (kG x++(x.aL.map mU).take i):=⟨_,rfl⟩
 obtain⟨T,hT⟩:∃T:Nat→List (List D),T=fun i=>lx (kG x++(x.aL.map mU).take i) (n+1):=⟨_,rfl⟩
 have hT0:T 0=[[.s Ba,.ol (n+1) []],[.s x.bJ,.ol (n+1+1) []],[.s [],.ol (n+1+1+1) (lx (aU x.aF) (n+1+1+1+1))],[.s (cK x.bV).bS,.ol (n+1+1+1+dB (bR (aU x.aF))) (lx (cK x.bV).aY (n+1+1+1+dB (bR (aU x.aF))+1))],[.s [],.ol (n+1+1+1+dB (bR (aU x.aF))+dB (cK x.bV)) (lx (x.bY.map nP) (n+1+1+1+dB (bR (aU x.aF))+dB (cK x.bV)+1))],[.s [],.ol (n+1+1+1+dB (bR (aU x.aF))+dB (cK x.bV)+dB (bR (x.bY.map nP))) (lx (aU (jH x)) (n+1+1+1+dB (bR (aU x.aF))+dB (cK x.bV)+dB (bR (x.bY.map nP))+1))],[.s [],.ol p (lx (jZ x) (p+1))]]:=by
  rw[hT,hp];simp only[List.take_zero,List.append_nil,kG,Tn]
 have fP:∀i,(T i).length≤i+7:=fun i=>by
  rw[hT];simp only[eX,List.length_append]
  have:=List.length_take_le i (x.aL.map mU)
  simp[kG];omega
 have hTs:∀i (hi:i<x.aL.length),T i++[[.s [],.ol (L i) [[.s x.aL[i].fName,.ol (L i+1) []],[.s [],.ol (L i+1+1) (lx (aU x.aL[i].aF) (L i+1+1+1))],[.s (eH x.aL[i].fBody).bS,.ol (L i+1+1+dB (bR (aU x.aL[i].aF))) (lx (eH x.aL[i].fBody).aY (L i+1+1+dB (bR (aU x.aL[i].aF))+1))]]]]=T (i+1):=fun i hi=>by
  have:=vk (base:=kG x) (l:=x.aL.map mU) (i:=i) (by rw[List.length_map];exact hi) (n+1)
  rw[List.getElem_map,mU,dL,cO] at this
  simp only[iD,kE,iC,jl,jm,dL,cO,iP] at this
  rw[hT,hL];exact this
 have hTr:∀i,∀r∈T i,r.length=2:=fun i=>by rw[hT];exact jc
 have hTe:T x.aL.length=lx (rD x).aY (n+1):=by
  rw[hT];simp only
  rw[List.take_of_length_le (by simp)];rfl
 clear hT hL
 refine(show Hold ?T→_ from fun tail=> ?main) ?tp
 case' main=>
  cases ha:x.iT<;>cases hs:x.fA
  ·have hfl:jH x=[]:=by unfold jH;rw[ha];rfl
   have has:jZ x=[]:=by unfold jZ;rw[hs];rfl
   refine vO (p) 1 (n) 5 (rs:=[.cell 2 78]) Tryz.checked.mixed Tryz.func143 Tryz.ntmps143 rfl rfl rfl rfl rfl ?_
   simp -implicitDefEqProofs (disch:=omega) only[go_sem,ha,hs]
   refine W3 ?_
   refine C1 (bZ _ (n+1)) ?_
   refine C1 (bZ _ (n+1+1)) ?_
   refine C1 (dP x.aF (by omega) (n+1+1+1)) ?_
   refine C1 (jD x.bV (n+1+1+1+dB (bR (aU x.aF))) hf1 (by omega)) ?_
   refine C1 (qm x.bY (n+1+1+1+dB (bR (aU x.aF))+dB (cK x.bV)) hf2 (by omega) (fun b hb=>by have:=mM hb;omega)) ?_
   refine nK (dP [] (by simp) (n+1+1+1+dB (bR (aU x.aF))+dB (cK x.bV)+dB (bR (x.bY.map nP)))) (.cons (lq p _) .nil) ?_
   refine W1 ?_
   refine C1 (kU _ _) ?_
   refine W3 ?_
   refine kW n 5 2 (T 0) (.inl ?_) (hTr 0) ?_
   ·rw[hT0,hfl,has];rfl
   refine kZ (L 0) ?_
   refine oD (st':=[.seed (L 0),.seed 1,.box [.d (.s x.bJ),.d (.sl (x.aF.map encS)),.d (.i .i64 x.bV.aV),.d (.s x.bV.fName),.d (.sl (x.bV.fArgs.map ah.enc)),.d (.sl (x.bY.map bA.enc)),.d (.b x.iT),.d (.b x.fA),.d (.i .i64 x.bQ.aV),.d (.s x.bQ.fName),.d (.sl (x.bQ.fArgs.map ah.enc)),.d (.sl (x.aL.map bB.enc))],.box [.d (.s []),.bC []],.eB n 2 (T 0)]::S) [2,5,42,43,44] [.c (.ptr (0,3) 0),.c (.bI (0,4) (T 0)),.c (.d (.sl (x.aL.map bB.enc))),.c (.d (.i .i64 x.aL.length)),.c (.d (.i .i64 0))] ?_ ?_ ?_
   ·rfl
   ·rw[ha,hs];rfl
   ·exact tail.out
  ·have hfl:jH x=[]:=by unfold jH;rw[ha];rfl
   have has:jZ x=[cK x.bQ]:=by unfold jZ;rw[hs];rfl
   refine vO (p) 1 (n) 5 (rs:=[.cell 2 78]) Tryz.checked.mixed Tryz.func143 Tryz.ntmps143 rfl rfl rfl rfl rfl ?_
   simp -implicitDefEqProofs (disch:=omega) only[go_sem,ha,hs]
   refine W3 ?_
   refine C1 (jD x.bQ (p+1) (hf3 hs) (by omega)) ?_
   refine W3 ?_
   refine C1 (bZ _ (n+1)) ?_
   refine C1 (bZ _ (n+1+1)) ?_
   refine C1 (dP x.aF (by omega) (n+1+1+1)) ?_
   refine C1 (jD x.bV (n+1+1+1+dB (bR (aU x.aF))) hf1 (by omega)) ?_
   refine C1 (qm x.bY (n+1+1+1+dB (bR (aU x.aF))+dB (cK x.bV)) hf2 (by omega) (fun b hb=>by have:=mM hb;omega)) ?_
   refine nK (dP [] (by simp) (n+1+1+1+dB (bR (aU x.aF))+dB (cK x.bV)+dB (bR (x.bY.map nP)))) (.cons (lq p _) .nil) ?_
   refine W1 ?_
   refine C1 (jo _) ?_
   refine W3 ?_
   refine kW n 5 2 (T 0) (.inl ?_) (hTr 0) ?_
   ·rw[hT0,hfl,has,iD,kE,iC];rfl
   refine kZ (L 0) ?_
   refine oD (st':=[.seed (L 0),.seed 1,.box [.d (.s x.bJ),.d (.sl (x.aF.map encS)),.d (.i .i64 x.bV.aV),.d (.s x.bV.fName),.d (.sl (x.bV.fArgs.map ah.enc)),.d (.sl (x.bY.map bA.enc)),.d (.b x.iT),.d (.b x.fA),.d (.i .i64 x.bQ.aV),.d (.s x.bQ.fName),.d (.sl (x.bQ.fArgs.map ah.enc)),.d (.sl (x.aL.map bB.enc))],.box [.d (.s []),.bC []],.eB n 2 (T 0)]::S) [2,5,42,43,44] [.c (.ptr (0,3) 0),.c (.bI (0,4) (T 0)),.c (.d (.sl (x.aL.map bB.enc))),.c (.d (.i .i64 x.aL.length)),.c (.d (.i .i64 0))] ?_ ?_ ?_
   ·rfl
   ·rw[ha,hs];rfl
   ·exact tail.out
  ·have hfl:jH x=[kV]:=by unfold jH;rw[ha];rfl
   have has:jZ x=[]:=by unfold jZ;rw[hs];rfl
   refine vO (p) 1 (n) 5 (rs:=[.cell 2 78]) Tryz.checked.mixed Tryz.func143 Tryz.ntmps143 rfl rfl rfl rfl rfl ?_
   simp -implicitDefEqProofs (disch:=omega) only[go_sem,ha,hs]
   refine W3 ?_
   refine C1 (bZ _ (n+1)) ?_
   refine C1 (bZ _ (n+1+1)) ?_
   refine C1 (dP x.aF (by omega) (n+1+1+1)) ?_
   refine C1 (jD x.bV (n+1+1+1+dB (bR (aU x.aF))) hf1 (by omega)) ?_
   refine C1 (qm x.bY (n+1+1+1+dB (bR (aU x.aF))+dB (cK x.bV)) hf2 (by omega) (fun b hb=>by have:=mM hb;omega)) ?_
   refine nK (dP [kV] (by simp) (n+1+1+1+dB (bR (aU x.aF))+dB (cK x.bV)+dB (bR (x.bY.map nP)))) (.cons (NU p _) .nil) ?_
   refine W1 ?_
   refine C1 (kU _ _) ?_
   refine W3 ?_
   refine kW n 5 2 (T 0) (.inl ?_) (hTr 0) ?_
   ·rw[hT0,hfl,has];rfl
   refine kZ (L 0) ?_
   refine oD (st':=[.seed (L 0),.seed 1,.box [.d (.s x.bJ),.d (.sl (x.aF.map encS)),.d (.i .i64 x.bV.aV),.d (.s x.bV.fName),.d (.sl (x.bV.fArgs.map ah.enc)),.d (.sl (x.bY.map bA.enc)),.d (.b x.iT),.d (.b x.fA),.d (.i .i64 x.bQ.aV),.d (.s x.bQ.fName),.d (.sl (x.bQ.fArgs.map ah.enc)),.d (.sl (x.aL.map bB.enc))],.box [.d (.s []),.bC []],.eB n 2 (T 0)]::S) [2,5,42,43,44] [.c (.ptr (0,3) 0),.c (.bI (0,4) (T 0)),.c (.d (.sl (x.aL.map bB.enc))),.c (.d (.i .i64 x.aL.length)),.c (.d (.i .i64 0))] ?_ ?_ ?_
   ·rfl
   ·rw[ha,hs];rfl
   ·exact tail.out
  ·have hfl:jH x=[kV]:=by unfold jH;rw[ha];rfl
   have has:jZ x=[cK x.bQ]:=by unfold jZ;rw[hs];rfl
   refine vO (p) 1 (n) 5 (rs:=[.cell 2 78]) Tryz.checked.mixed Tryz.func143 Tryz.ntmps143 rfl rfl rfl rfl rfl ?_
   simp -implicitDefEqProofs (disch:=omega) only[go_sem,ha,hs]
   refine W3 ?_
   refine C1 (jD x.bQ (p+1) (hf3 hs) (by omega)) ?_
   refine W3 ?_
   refine C1 (bZ _ (n+1)) ?_
   refine C1 (bZ _ (n+1+1)) ?_
   refine C1 (dP x.aF (by omega) (n+1+1+1)) ?_
   refine C1 (jD x.bV (n+1+1+1+dB (bR (aU x.aF))) hf1 (by omega)) ?_
   refine C1 (qm x.bY (n+1+1+1+dB (bR (aU x.aF))+dB (cK x.bV)) hf2 (by omega) (fun b hb=>by have:=mM hb;omega)) ?_
   refine nK (dP [kV] (by simp) (n+1+1+1+dB (bR (aU x.aF))+dB (cK x.bV)+dB (bR (x.bY.map nP)))) (.cons (NU p _) .nil) ?_
   refine W1 ?_
   refine C1 (jo _) ?_
   refine W3 ?_
   refine kW n 5 2 (T 0) (.inl ?_) (hTr 0) ?_
   ·rw[hT0,hfl,has,iD,kE,iC];rfl
   refine kZ (L 0) ?_
   refine oD (st':=[.seed (L 0),.seed 1,.box [.d (.s x.bJ),.d (.sl (x.aF.map encS)),.d (.i .i64 x.bV.aV),.d (.s x.bV.fName),.d (.sl (x.bV.fArgs.map ah.enc)),.d (.sl (x.bY.map bA.enc)),.d (.b x.iT),.d (.b x.fA),.d (.i .i64 x.bQ.aV),.d (.s x.bQ.fName),.d (.sl (x.bQ.fArgs.map ah.enc)),.d (.sl (x.aL.map bB.enc))],.box [.d (.s []),.bC []],.eB n 2 (T 0)]::S) [2,5,42,43,44] [.c (.ptr (0,3) 0),.c (.bI (0,4) (T 0)),.c (.d (.sl (x.aL.map bB.enc))),.c (.d (.i .i64 x.aL.length)),.c (.d (.i .i64 0))] ?_ ?_ ?_
   ·rfl
   ·rw[ha,hs];rfl
   ·exact tail.out
 refine⟨?_⟩
 refine aR (ι:=Nat) Tryz.checked.mixed rfl [2,5,42,43,44] (fun i=>[.c (.ptr (0,3) 0),.c (.bI (0,4) (T i)),.c (.d (.sl (x.aL.map bB.enc))),.c (.d (.i .i64 x.aL.length)),.c (.d (.i .i64 i))])
  (fun i=>[.seed (L i),.seed 1,.box [.d (.s x.bJ),.d (.sl (x.aF.map encS)),.d (.i .i64 x.bV.aV),.d (.s x.bV.fName),.d (.sl (x.bV.fArgs.map ah.enc)),.d (.sl (x.bY.map bA.enc)),.d (.b x.iT),.d (.b x.fA),.d (.i .i64 x.bQ.aV),.d (.s x.bQ.fName),.d (.sl (x.bQ.fArgs.map ah.enc)),.d (.sl (x.aL.map bB.enc))],.box [.d (.s []),.bC []],.eB n 2 (T i)]::S)
  (fun i=>i≤x.aL.length) (fun i=>x.aL.length-i) 0 rfl rfl (Nat.zero_le _) ?_
 intro i hi
 have hl:=fP i
 refine W1 ?_
 refine S0 (fun hb h=>?_) fun hb h=>?_
 ·have hi':i<x.aL.length:=by omega
  have hm:=List.getElem_mem hi'
  have hcz:=vB hm
  have hce:=bB.sum x.aL[i]
  rw[dD] at hce
  have hst:=hTs i hi'
  refine W3 ?_
  refine C1 (bZ _ (L i+1)) ?_
  refine C1 (dP x.aL[i].aF (by omega) (L i+1+1)) ?_
  refine C1 (uH x.aL[i].fBody (L i+1+1+dB (bR (aU x.aL[i].aF))) (y7 _ hm) (by omega)) ?_
  refine W3 ?_
  refine C1 (kU _ _) ?_
  refine W3 ?_
  rw[hst]
  refine jf (L (i+1)) 4 (by decide) (i+1) (by omega) rfl rfl ?_ rfl (by omega)
  simp[gG,fH,V.refs,C.refs,iW]
 ·have hi':i=x.aL.length:=by omega
  refine dS rfl (iU 0 4 _ _) ?_
  refine W1 ?_
  rw[hi',hTe]
set_option maxHeartbeats 4000000 in
theorem YC(x:aQ)(hv:eD x=true)(hsz:x.sz≤1048576)(ha:x.iT=true)(hs:x.fA=true):aD Tryz.prog 132 [x.v] (o7 (rD x)).v:=fun S=>by
 have hdz:=aQ.sum x
 rw[dD] at hdz
 obtain⟨hf1,hf2,hf3,y7⟩:=mO hv
 have hz:=CP hv
 have hfl:jH x=[kV]:=by unfold jH;rw[ha];rfl
 have has:jZ x=[cK x.bQ]:=by unfold jZ;rw[hs];rfl
 obtain⟨T,hT⟩:∃T:Nat→List (List D),T=fun i=>(kG x++(x.aL.map mU).take i).map aj.enc:=⟨_,rfl⟩
 have hT0:T 0=[[.s Ba,.sl []],[.s x.bJ,.sl []],[.s [],.sl ((aU x.aF).map aj.enc)],[.s (cK x.bV).bS,.sl ((cK x.bV).aY.map aj.enc)],[.s [],.sl ((x.bY.map nP).map aj.enc)],[.s [],.sl ((aU [kV]).map aj.enc)],[.s [],.sl [[.s (cK x.bQ).bS,.sl ((cK x.bQ).aY.map aj.enc)]]]]:=by
  rw[hT];simp only[List.take_zero,List.append_nil,kG,hfl,has,List.map_cons,List.map_nil,dY,iA,aj.aH (cK x.bV),aj.aH (cK x.bQ)]
 have fP:∀i,(T i).length≤i+7:=fun i=>by
  rw[hT];simp only[List.length_map,List.length_append]
  have:=List.length_take_le i (x.aL.map mU)
  simp[kG];omega
 have hTs:∀i (hi:i<x.aL.length),T i++[[.s [],.sl [[.s x.aL[i].fName,.sl []],[.s [],.sl ((aU x.aL[i].aF).map aj.enc)],[.s (eH x.aL[i].fBody).bS,.sl ((eH x.aL[i].fBody).aY.map aj.enc)]]]]=T (i+1):=fun i hi=>by
  have:=gT (base:=kG x) (l:=x.aL.map mU) (i:=i) (by rw[List.length_map];exact hi)
  rw[List.getElem_map,mU,dL,cO] at this
  simp only[List.map_cons,List.map_nil,dY,iA,aj.aH (eH x.aL[i].fBody)] at this
  rw[hT];exact this
 have hTr:∀i,∀r∈T i,r.length=2:=fun i=>by rw[hT];exact ji
 have hTe:T x.aL.length=(rD x).aY.map aj.enc:=by
  rw[hT];simp only
  rw[List.take_of_length_le (by simp)];rfl
 clear hT
 refine aB (rs:=[.cell 2 78]) Tryz.checked.mixed Tryz.func132 Tryz.ntmps132 rfl rfl rfl rfl rfl ?_
 refine W1 ?_
 refine bN (lS x (by omega)) ?_
 simp -implicitDefEqProofs (disch:=omega) only[go_sem,hv,ha,hs]
 refine W3 ?_
 refine C1 (jO x.bQ (by omega)) ?_
 refine W3 ?_
 refine C1 (kL _ (by simp) (by simp)) ?_
 refine W3 ?_
 refine C1 (bK _) ?_
 refine C1 (bK _) ?_
 refine C1 (dH x.aF (by omega)) ?_
 refine C1 (jO x.bV (by omega)) ?_
 refine C1 (rA x.bY (by omega) (fun b hb=>by have:=mM hb;omega)) ?_
 refine C1 (dH [kV] (by simp)) ?_
 have hE:=fun bM Ω=>iM (T 0) (hTr 0) (by have:=fP 0;omega) bM Ω
 simp only[hT0] at hE
 refine kQ [false] rfl (hE _ _) ?_
 refine W1 ?_
 refine aR (ι:=Nat) Tryz.checked.mixed rfl [1,2,5,6] (fun i=>[.c (.ptr (0,0) 0),.c (.ptr (0,1) 0),.c (.ptr (0,6) 0),.c (.d (.i .i64 i))])
  (fun i=>[.box [.d (.s x.bJ),.d (.sl (x.aF.map encS)),.d (.i .i64 x.bV.aV),.d (.s x.bV.fName),.d (.sl (x.bV.fArgs.map ah.enc)),.d (.sl (x.bY.map bA.enc)),.d (.b true),.d (.b true),.d (.i .i64 x.bQ.aV),.d (.s x.bQ.fName),.d (.sl (x.bQ.fArgs.map ah.enc)),.d (.sl (x.aL.map bB.enc))],.box [.d (.s []),.bC []],.tok 1 [[.s kV]],.box [.d (.s []),.d (.sl [[.s (cK x.bQ).bS,.sl ((cK x.bQ).aY.map aj.enc)]])],.box [.d (.s []),.bI (0,5) (T 0)],.tok 2 (T i),.box [.d (.s []),.bI (0,5) (T i)]]::S)
  (fun i=>i≤x.aL.length) (fun i=>x.aL.length-i) 0 rfl (by simp only[hT0]<;>(try rfl)) (Nat.zero_le _) ?_
 intro i hi
 have hl:=fP i
 refine W1 ?_
 refine S0 (fun hb h=>?_) fun hb h=>?_
 ·have hi':i<x.aL.length:=by omega
  have hm:=List.getElem_mem hi'
  have hcz:=vB hm
  have hce:=bB.sum x.aL[i]
  rw[dD] at hce
  have hst:=hTs i hi'
  refine W3 ?_
  refine C1 (bK _) ?_
  refine C1 (dH x.aL[i].aF (by omega)) ?_
  refine C1 (o9 x.aL[i].fBody (y7 _ hm) (by omega)) ?_
  refine C1 (kL _ (by simp) (by simp)) ?_
  refine W3 ?_
  rw[hst]
  exact bX 7 (by decide) (i+1) (by omega) rfl rfl rfl rfl (by omega)
 ·have hi':i=x.aL.length:=by omega
  subst hi'
  rw[hTe]
  refine C1 (nA true (rD x) (by omega)) ?_
  rfl
set_option maxHeartbeats 4000000 in
theorem YD(x:aQ)(hv:eD x=true)(hsz:x.sz≤1048576)(ha:x.iT=true)(hs:x.fA=false):aD Tryz.prog 132 [x.v] (o7 (rD x)).v:=fun S=>by
 have hdz:=aQ.sum x
 rw[dD] at hdz
 obtain⟨hf1,hf2,hf3,y7⟩:=mO hv
 have hz:=CP hv
 have hfl:jH x=[kV]:=by unfold jH;rw[ha];rfl
 have has:jZ x=[]:=by unfold jZ;rw[hs];rfl
 obtain⟨T,hT⟩:∃T:Nat→List (List D),T=fun i=>(kG x++(x.aL.map mU).take i).map aj.enc:=⟨_,rfl⟩
 have hT0:T 0=[[.s Ba,.sl []],[.s x.bJ,.sl []],[.s [],.sl ((aU x.aF).map aj.enc)],[.s (cK x.bV).bS,.sl ((cK x.bV).aY.map aj.enc)],[.s [],.sl ((x.bY.map nP).map aj.enc)],[.s [],.sl ((aU [kV]).map aj.enc)],[.s [],.sl []]]:=by
  rw[hT];simp only[List.take_zero,List.append_nil,kG,hfl,has,List.map_cons,List.map_nil,dY,iA,aj.aH (cK x.bV),aj.aH (cK x.bQ)]
 have fP:∀i,(T i).length≤i+7:=fun i=>by
  rw[hT];simp only[List.length_map,List.length_append]
  have:=List.length_take_le i (x.aL.map mU)
  simp[kG];omega
 have hTs:∀i (hi:i<x.aL.length),T i++[[.s [],.sl [[.s x.aL[i].fName,.sl []],[.s [],.sl ((aU x.aL[i].aF).map aj.enc)],[.s (eH x.aL[i].fBody).bS,.sl ((eH x.aL[i].fBody).aY.map aj.enc)]]]]=T (i+1):=fun i hi=>by
  have:=gT (base:=kG x) (l:=x.aL.map mU) (i:=i) (by rw[List.length_map];exact hi)
  rw[List.getElem_map,mU,dL,cO] at this
  simp only[List.map_cons,List.map_nil,dY,iA,aj.aH (eH x.aL[i].fBody)] at this
  rw[hT];exact this
 have hTr:∀i,∀r∈T i,r.length=2:=fun i=>by rw[hT];exact ji
 have hTe:T x.aL.length=(rD x).aY.map aj.enc:=by
  rw[hT];simp only
  rw[List.take_of_length_le (by simp)];rfl
 clear hT
 refine aB (rs:=[.cell 2 78]) Tryz.checked.mixed Tryz.func132 Tryz.ntmps132 rfl rfl rfl rfl rfl ?_
 refine W1 ?_
 refine bN (lS x (by omega)) ?_
 simp -implicitDefEqProofs (disch:=omega) only[go_sem,hv,ha,hs]
 refine W3 ?_
 refine C1 (bK _) ?_
 refine C1 (bK _) ?_
 refine C1 (dH x.aF (by omega)) ?_
 refine C1 (jO x.bV (by omega)) ?_
 refine C1 (rA x.bY (by omega) (fun b hb=>by have:=mM hb;omega)) ?_
 refine C1 (dH [kV] (by simp)) ?_
 have hE:=fun bM Ω=>iM (T 0) (hTr 0) (by have:=fP 0;omega) bM Ω
 simp only[hT0] at hE
 refine kQ [false] rfl (hE _ _) ?_
 refine W1 ?_
 refine aR (ι:=Nat) Tryz.checked.mixed rfl [1,2,5,6] (fun i=>[.c (.ptr (0,0) 0),.c (.ptr (0,1) 0),.c (.ptr (0,6) 0),.c (.d (.i .i64 i))])
  (fun i=>[.box [.d (.s x.bJ),.d (.sl (x.aF.map encS)),.d (.i .i64 x.bV.aV),.d (.s x.bV.fName),.d (.sl (x.bV.fArgs.map ah.enc)),.d (.sl (x.bY.map bA.enc)),.d (.b true),.d (.b false),.d (.i .i64 x.bQ.aV),.d (.s x.bQ.fName),.d (.sl (x.bQ.fArgs.map ah.enc)),.d (.sl (x.aL.map bB.enc))],.box [.d (.s []),.bC []],.tok 1 [[.s kV]],.box [.d (.s []),.bC []],.box [.d (.s []),.bI (0,5) (T 0)],.tok 2 (T i),.box [.d (.s []),.bI (0,5) (T i)]]::S)
  (fun i=>i≤x.aL.length) (fun i=>x.aL.length-i) 0 rfl (by simp only[hT0]<;>(try rfl)) (Nat.zero_le _) ?_
 intro i hi
 have hl:=fP i
 refine W1 ?_
 refine S0 (fun hb h=>?_) fun hb h=>?_
 ·have hi':i<x.aL.length:=by omega
  have hm:=List.getElem_mem hi'
  have hcz:=vB hm
  have hce:=bB.sum x.aL[i]
  rw[dD] at hce
  have hst:=hTs i hi'
  refine W3 ?_
  refine C1 (bK _) ?_
  refine C1 (dH x.aL[i].aF (by omega)) ?_
  refine C1 (o9 x.aL[i].fBody (y7 _ hm) (by omega)) ?_
  refine C1 (kL _ (by simp) (by simp)) ?_
  refine W3 ?_
  rw[hst]
  exact bX 7 (by decide) (i+1) (by omega) rfl rfl rfl rfl (by omega)
 ·have hi':i=x.aL.length:=by omega
  subst hi'
  rw[hTe]
  refine C1 (nA true (rD x) (by omega)) ?_
  rfl
set_option maxHeartbeats 4000000 in
theorem YE(x:aQ)(hv:eD x=true)(hsz:x.sz≤1048576)(ha:x.iT=false)(hs:x.fA=true):aD Tryz.prog 132 [x.v] (o7 (rD x)).v:=fun S=>by
 have hdz:=aQ.sum x
 rw[dD] at hdz
 obtain⟨hf1,hf2,hf3,y7⟩:=mO hv
 have hz:=CP hv
 have hfl:jH x=[]:=by unfold jH;rw[ha];rfl
 have has:jZ x=[cK x.bQ]:=by unfold jZ;rw[hs];rfl
 obtain⟨T,hT⟩:∃T:Nat→List (List D),T=fun i=>(kG x++(x.aL.map mU).take i).map aj.enc:=⟨_,rfl⟩
 have hT0:T 0=[[.s Ba,.sl []],[.s x.bJ,.sl []],[.s [],.sl ((aU x.aF).map aj.enc)],[.s (cK x.bV).bS,.sl ((cK x.bV).aY.map aj.enc)],[.s [],.sl ((x.bY.map nP).map aj.enc)],[.s [],.sl ((aU []).map aj.enc)],[.s [],.sl [[.s (cK x.bQ).bS,.sl ((cK x.bQ).aY.map aj.enc)]]]]:=by
  rw[hT];simp only[List.take_zero,List.append_nil,kG,hfl,has,List.map_cons,List.map_nil,dY,iA,aj.aH (cK x.bV),aj.aH (cK x.bQ)]
 have fP:∀i,(T i).length≤i+7:=fun i=>by
  rw[hT];simp only[List.length_map,List.length_append]
  have:=List.length_take_le i (x.aL.map mU)
  simp[kG];omega
 have hTs:∀i (hi:i<x.aL.length),T i++[[.s [],.sl [[.s x.aL[i].fName,.sl []],[.s [],.sl ((aU x.aL[i].aF).map aj.enc)],[.s (eH x.aL[i].fBody).bS,.sl ((eH x.aL[i].fBody).aY.map aj.enc)]]]]=T (i+1):=fun i hi=>by
  have:=gT (base:=kG x) (l:=x.aL.map mU) (i:=i) (by rw[List.length_map];exact hi)
  rw[List.getElem_map,mU,dL,cO] at this
  simp only[List.map_cons,List.map_nil,dY,iA,aj.aH (eH x.aL[i].fBody)] at this
  rw[hT];exact this
 have hTr:∀i,∀r∈T i,r.length=2:=fun i=>by rw[hT];exact ji
 have hTe:T x.aL.length=(rD x).aY.map aj.enc:=by
  rw[hT];simp only
  rw[List.take_of_length_le (by simp)];rfl
 clear hT
 refine aB (rs:=[.cell 2 78]) Tryz.checked.mixed Tryz.func132 Tryz.ntmps132 rfl rfl rfl rfl rfl ?_
 refine W1 ?_
 refine bN (lS x (by omega)) ?_
 simp -implicitDefEqProofs (disch:=omega) only[go_sem,hv,ha,hs]
 refine W3 ?_
 refine C1 (jO x.bQ (by omega)) ?_
 refine W3 ?_
 refine C1 (kL _ (by simp) (by simp)) ?_
 refine W3 ?_
 refine C1 (bK _) ?_
 refine C1 (bK _) ?_
 refine C1 (dH x.aF (by omega)) ?_
 refine C1 (jO x.bV (by omega)) ?_
 refine C1 (rA x.bY (by omega) (fun b hb=>by have:=mM hb;omega)) ?_
 refine C1 (dH [] (by simp)) ?_
 have hE:=fun bM Ω=>iM (T 0) (hTr 0) (by have:=fP 0;omega) bM Ω
 simp only[hT0] at hE
 refine kQ [false] rfl (hE _ _) ?_
 refine W1 ?_
 refine aR (ι:=Nat) Tryz.checked.mixed rfl [1,2,5,6] (fun i=>[.c (.ptr (0,0) 0),.c (.ptr (0,1) 0),.c (.ptr (0,5) 0),.c (.d (.i .i64 i))])
  (fun i=>[.box [.d (.s x.bJ),.d (.sl (x.aF.map encS)),.d (.i .i64 x.bV.aV),.d (.s x.bV.fName),.d (.sl (x.bV.fArgs.map ah.enc)),.d (.sl (x.bY.map bA.enc)),.d (.b false),.d (.b true),.d (.i .i64 x.bQ.aV),.d (.s x.bQ.fName),.d (.sl (x.bQ.fArgs.map ah.enc)),.d (.sl (x.aL.map bB.enc))],.box [.d (.s []),.bC []],.box [.d (.s []),.d (.sl [[.s (cK x.bQ).bS,.sl ((cK x.bQ).aY.map aj.enc)]])],.box [.d (.s []),.bI (0,4) (T 0)],.tok 2 (T i),.box [.d (.s []),.bI (0,4) (T i)]]::S)
  (fun i=>i≤x.aL.length) (fun i=>x.aL.length-i) 0 rfl (by simp only[hT0]<;>(try rfl)) (Nat.zero_le _) ?_
 intro i hi
 have hl:=fP i
 refine W1 ?_
 refine S0 (fun hb h=>?_) fun hb h=>?_
 ·have hi':i<x.aL.length:=by omega
  have hm:=List.getElem_mem hi'
  have hcz:=vB hm
  have hce:=bB.sum x.aL[i]
  rw[dD] at hce
  have hst:=hTs i hi'
  refine W3 ?_
  refine C1 (bK _) ?_
  refine C1 (dH x.aL[i].aF (by omega)) ?_
  refine C1 (o9 x.aL[i].fBody (y7 _ hm) (by omega)) ?_
  refine C1 (kL _ (by simp) (by simp)) ?_
  refine W3 ?_
  rw[hst]
  exact bX 6 (by decide) (i+1) (by omega) rfl rfl rfl rfl (by omega)
 ·have hi':i=x.aL.length:=by omega
  subst hi'
  rw[hTe]
  refine C1 (nA true (rD x) (by omega)) ?_
  rfl
set_option maxHeartbeats 4000000 in
theorem YF(x:aQ)(hv:eD x=true)(hsz:x.sz≤1048576)(ha:x.iT=false)(hs:x.fA=false):aD Tryz.prog 132 [x.v] (o7 (rD x)).v:=fun S=>by
 have hdz:=aQ.sum x
 rw[dD] at hdz
 obtain⟨hf1,hf2,hf3,y7⟩:=mO hv
 have hz:=CP hv
 have hfl:jH x=[]:=by unfold jH;rw[ha];rfl
 have has:jZ x=[]:=by unfold jZ;rw[hs];rfl
 obtain⟨T,hT⟩:∃T:Nat→List (List D),T=fun i=>(kG x++(x.aL.map mU).take i).map aj.enc:=⟨_,rfl⟩
 have hT0:T 0=[[.s Ba,.sl []],[.s x.bJ,.sl []],[.s [],.sl ((aU x.aF).map aj.enc)],[.s (cK x.bV).bS,.sl ((cK x.bV).aY.map aj.enc)],[.s [],.sl ((x.bY.map nP).map aj.enc)],[.s [],.sl ((aU []).map aj.enc)],[.s [],.sl []]]:=by
  rw[hT];simp only[List.take_zero,List.append_nil,kG,hfl,has,List.map_cons,List.map_nil,dY,iA,aj.aH (cK x.bV),aj.aH (cK x.bQ)]
 have fP:∀i,(T i).length≤i+7:=fun i=>by
  rw[hT];simp only[List.length_map,List.length_append]
  have:=List.length_take_le i (x.aL.map mU)
  simp[kG];omega
 have hTs:∀i (hi:i<x.aL.length),T i++[[.s [],.sl [[.s x.aL[i].fName,.sl []],[.s [],.sl ((aU x.aL[i].aF).map aj.enc)],[.s (eH x.aL[i].fBody).bS,.sl ((eH x.aL[i].fBody).aY.map aj.enc)]]]]=T (i+1):=fun i hi=>by
  have:=gT (base:=kG x) (l:=x.aL.map mU) (i:=i) (by rw[List.length_map];exact hi)
  rw[List.getElem_map,mU,dL,cO] at this
  simp only[List.map_cons,List.map_nil,dY,iA,aj.aH (eH x.aL[i].fBody)] at this
  rw[hT];exact this
 have hTr:∀i,∀r∈T i,r.length=2:=fun i=>by rw[hT];exact ji
 have hTe:T x.aL.length=(rD x).aY.map aj.enc:=by
  rw[hT];simp only
  rw[List.take_of_length_le (by simp)];rfl
 clear hT
 refine aB (rs:=[.cell 2 78]) Tryz.checked.mixed Tryz.func132 Tryz.ntmps132 rfl rfl rfl rfl rfl ?_
 refine W1 ?_
 refine bN (lS x (by omega)) ?_
 simp -implicitDefEqProofs (disch:=omega) only[go_sem,hv,ha,hs]
 refine W3 ?_
 refine C1 (bK _) ?_
 refine C1 (bK _) ?_
 refine C1 (dH x.aF (by omega)) ?_
 refine C1 (jO x.bV (by omega)) ?_
 refine C1 (rA x.bY (by omega) (fun b hb=>by have:=mM hb;omega)) ?_
 refine C1 (dH [] (by simp)) ?_
 have hE:=fun bM Ω=>iM (T 0) (hTr 0) (by have:=fP 0;omega) bM Ω
 simp only[hT0] at hE
 refine kQ [false] rfl (hE _ _) ?_
 refine W1 ?_
 refine aR (ι:=Nat) Tryz.checked.mixed rfl [1,2,5,6] (fun i=>[.c (.ptr (0,0) 0),.c (.ptr (0,1) 0),.c (.ptr (0,5) 0),.c (.d (.i .i64 i))])
  (fun i=>[.box [.d (.s x.bJ),.d (.sl (x.aF.map encS)),.d (.i .i64 x.bV.aV),.d (.s x.bV.fName),.d (.sl (x.bV.fArgs.map ah.enc)),.d (.sl (x.bY.map bA.enc)),.d (.b false),.d (.b false),.d (.i .i64 x.bQ.aV),.d (.s x.bQ.fName),.d (.sl (x.bQ.fArgs.map ah.enc)),.d (.sl (x.aL.map bB.enc))],.box [.d (.s []),.bC []],.box [.d (.s []),.bC []],.box [.d (.s []),.bI (0,4) (T 0)],.tok 2 (T i),.box [.d (.s []),.bI (0,4) (T i)]]::S)
  (fun i=>i≤x.aL.length) (fun i=>x.aL.length-i) 0 rfl (by simp only[hT0]<;>(try rfl)) (Nat.zero_le _) ?_
 intro i hi
 have hl:=fP i
 refine W1 ?_
 refine S0 (fun hb h=>?_) fun hb h=>?_
 ·have hi':i<x.aL.length:=by omega
  have hm:=List.getElem_mem hi'
  have hcz:=vB hm
  have hce:=bB.sum x.aL[i]
  rw[dD] at hce
  have hst:=hTs i hi'
  refine W3 ?_
  refine C1 (bK _) ?_
  refine C1 (dH x.aL[i].aF (by omega)) ?_
  refine C1 (o9 x.aL[i].fBody (y7 _ hm) (by omega)) ?_
  refine C1 (kL _ (by simp) (by simp)) ?_
  refine W3 ?_
  rw[hst]
  exact bX 6 (by decide) (i+1) (by omega) rfl rfl rfl rfl (by omega)
 ·have hi':i=x.aL.length:=by omega
  subst hi'
  rw[hTe]
  refine C1 (nA true (rD x) (by omega)) ?_
  rfl
theorem NW(x:aQ)(hsz:x.sz≤1048576):aD Tryz.prog 132 [x.v] (zq x).v:=by
 unfold zq
 cases hv:eD x with
 |false=>
  rw[qX]
  refine aD.less (fun S=> ?_) (vo [] [])
  refine aB (rs:=[.cell 2 78]) Tryz.checked.mixed Tryz.func132 Tryz.ntmps132 rfl rfl rfl rfl rfl ?_
  refine W1 ?_
  refine bN (lS x (by omega)) ?_
  simp -implicitDefEqProofs (disch:=omega) only[go_sem,hv]
 |true=>
  rw[qX]
  cases ha:x.iT with
  |true=>
   cases hs:x.fA with
   |true=>exact YC x hv hsz ha hs
   |false=>exact YD x hv hsz ha hs
  |false=>
   cases hs:x.fA with
   |true=>exact YE x hv hsz ha hs
   |false=>exact YF x hv hsz ha hs
end Go.Proofs.YtcfhnaohbaplhaaGreatDoor
namespace Go.Ab
def fu(p:aN):List (List UInt8):=p.aK.map bg.fName
def gU(p:aN):List (List UInt8):=p.ak.map aO.fName
def fQ(ds:List aO):List (List UInt8):=ds.flatMap fun d=>d.aG.map aP.fName
def fnNames(p:aN):List (List UInt8):=p.aM.map aS.fName
def uI(ps:List aN):List (List UInt8):=ps.flatMap fu
def uJ(ps:List aN):List (List UInt8):=ps.flatMap gU
def uK(ps:List aN):List (List UInt8):=ps.flatMap fun p=>fQ p.ak
def uL(ps:List aN):List (List UInt8):=ps.flatMap fnNames
noncomputable def kM(ps:List aN):Bool:=dec (uI ps).Nodup&&(dec (uJ ps).Nodup&&(dec (uK ps).Nodup&&dec (uL ps).Nodup))
theorem tK{α β:Type}(f:α→List β){xs:List α}{i:Nat}(hi:i<xs.length):(xs.take (i+1)).flatMap f=(xs.take i).flatMap f++f xs[i]:=by
 rw[List.take_succ_eq_append_getElem hi,List.flatMap_append]
 simp
theorem qB{α β:Type}(f:α→List β)(g:α→List D)(h:∀x,(f x).length≤bH (g x)):∀xs:List α,(xs.flatMap f).length≤aI (xs.map g)
 |[]=>by simp[aI]
 |x::xs=>by
  have h1:=h x
  have h2:=qB f g h xs
  rw[List.flatMap_cons,List.length_append,List.map_cons,aI]
  omega
theorem Zf(ds:List aO):(fQ ds).length≤aI (ds.map aO.enc):=qB _ _ (fun d=>by
 rw[List.length_map]
 simp only[aO.aH,bH,bf,D.sz,List.length_map]
 omega) ds
theorem NY(ps:List aN):(uI ps).length≤aI (ps.map aN.enc)∧(uJ ps).length≤aI (ps.map aN.enc)∧(uK ps).length≤aI (ps.map aN.enc)∧(uL ps).length≤aI (ps.map aN.enc):=by
 refine⟨qB _ _ (fun p=> ?_) ps,qB _ _ (fun p=> ?_) ps,qB _ _ (fun p=> ?_) ps,qB _ _ (fun p=> ?_) ps⟩
 ·simp only[fu,aN.aH,bH,bf,D.sz,List.length_map];omega
 ·simp only[gU,aN.aH,bH,bf,D.sz,List.length_map];omega
 ·have:=Zf p.ak
  simp only[aN.aH,bH,bf,D.sz,List.length_map];omega
 ·simp only[fnNames,aN.aH,bH,bf,D.sz,List.length_map];omega
theorem aN.bounds{x:aN}(h:x.sz≤4194304):x.fName.length≤4194304∧x.dZ.length≤4194304∧x.aK.length≤4194304∧x.ak.length≤4194304∧x.aJ.length≤4194304∧x.aM.length≤4194304∧(fQ x.ak).length≤4194304:=by
 have:=Zf x.ak
 simp only[aN.sz,aN.aH,bH,bf,D.sz,List.length_map] at h
 omega
end Go.Ab
namespace Go.Proofs.YtcfhnaohbaplhaaGreatDoor
open Go Go.Ab
theorem NZ(x:aN):∀left:Int,0≤left→left≤1048576→kK x.enc→aD Tryz.prog 14 [x.v,.c (.d (.i .i64 left))] (.c (.d (.i .i64 (cB left x.sz)))):=by
 intro left h0 h1 hf S
 simp only[aN.aH,List.cons_append,List.nil_append,iG,iw,iq,and_true] at hf
 obtain⟨fName,dZ,aK,ak,aJ,aM⟩:=hf
 have hz:x.sz=x.fName.length+((x.dZ.length+aI (x.dZ.map encS))+((x.aK.length+aI (x.aK.map bg.enc))+((x.ak.length+aI (x.ak.map aO.enc))+((x.aJ.length+aI (x.aJ.map aQ.enc))+((x.aM.length+aI (x.aM.map aS.enc))))))):=by
  simp only[aN.sz,aN.aH,bH,bf,D.sz,List.length_map,Nat.add_zero,Nat.zero_add]<;>omega
 refine aB (rs:=[.tmp 4]) Tryz.checked.mixed Tryz.func14 Tryz.ntmps14 rfl rfl rfl rfl rfl ?_
 rw[hz]
 have xu:=pK fName
 refine W1 ?_
 refine S0 (fun hb h=>?_) fun hb h=>?_
 ·exact int_eq (bT (by omega)).symm
 refine C1 (mo x.dZ _ (by omega) (by omega) dZ) ?_
 refine S0 (fun hb h=>?_) fun hb h=>?_
 ·have h':=dA h
  exact int_eq (bT (by omega)).symm
 have ad2:=dO h
 simp only[ad2.1]
 refine C1 (Pk x.aK _ (by omega) (by omega) aK) ?_
 refine S0 (fun hb h=>?_) fun hb h=>?_
 ·have h':=dA h
  exact int_eq (bT (by omega)).symm
 have aau:=dO h
 simp only[aau.1]
 refine C1 (IL x.ak _ (by omega) (by omega) ak) ?_
 refine S0 (fun hb h=>?_) fun hb h=>?_
 ·have h':=dA h
  exact int_eq (bT (by omega)).symm
 have Tp:=dO h
 simp only[Tp.1]
 refine C1 (IY x.aJ _ (by omega) (by omega) aJ) ?_
 refine S0 (fun hb h=>?_) fun hb h=>?_
 ·have h':=dA h
  exact int_eq (bT (by omega)).symm
 have Tq:=dO h
 simp only[Tq.1]
 refine C1 (I5 x.aM _ (by omega) (by omega) aM) ?_
 refine S0 (fun hb h=>?_) fun hb h=>?_
 ·have h':=dA h
  exact int_eq (bT (by omega)).symm
 have Tt:=dO h
 simp only[Tt.1]
 refine int_eq ?_
 rw[fq (by omega)]
 omega
theorem KW(xs:List aN):∀left:Int,0≤left→left≤1048576→(D.sl (xs.map aN.enc)).Fit→aD Tryz.prog 69 [.c (.d (.sl (xs.map aN.enc))),.c (.d (.i .i64 left))] (.c (.d (.i .i64 (cB left (xs.length+aI (xs.map aN.enc)))))):=by
 intro left h0 h1 hf S
 obtain⟨hf1,hf2⟩:=nY hf
 rw[List.length_map] at hf1
 refine aB (rs:=[.tmp 4]) Tryz.checked.mixed Tryz.func69 Tryz.ntmps69 rfl rfl rfl rfl rfl ?_
 refine W1 ?_
 refine S0 (fun hb h=>?_) fun hb h=>?_
 ·exact int_eq (bT (by omega)).symm
 refine aR (ι:=Nat×Int) Tryz.checked.mixed rfl [0,1,5] (fun y=>[.c (.d (.sl (xs.map aN.enc))),.c (.d (.i .i64 y.2)),.c (.d (.i .i64 y.1))]) (fun _=>[]::S)
  (fun y=>y.1≤xs.length∧0≤y.2∧y.2≤1048576∧cB y.2 (aI ((xs.map aN.enc).drop y.1))=cB left (xs.length+aI (xs.map aN.enc))) (fun y=>xs.length-y.1) (0,left-xs.length) rfl rfl ⟨by omega,by omega,by omega,?_⟩ ?_
 ·unfold cB
  rw[List.drop_zero]
  split<;>split<;>omega
 rintro⟨i,l⟩ ⟨p1,p2,p3,p4⟩
 simp only at p1 p2 p3 p4
 refine W1 ?_
 refine S0 (fun hb h=>?_) fun hb h=>?_
 ·have hi:i<xs.length:=by omega
  rw[List.drop_eq_getElem_cons (by rw[List.length_map];exact hi),aI,List.getElem_map,aN.cZ] at p4
  refine W3 ?_
  refine C1 (NZ xs[i] _ (by omega) (by omega) (hf2 _ (List.mem_map_of_mem (List.getElem_mem hi)))) ?_
  refine S0 (fun hb h=>?_) fun hb h=>?_
  ·have h':=dA h
   rw[←p4,bT (by omega)]
  ·have h':=dO h
   refine bF (i+1,cB l _) (by simp only;omega) rfl rfl ⟨by simp only;omega,by simp only;omega,by simp only;omega,?_⟩
   simp only
   rw[←p4,h'.1]
   unfold cB
   split<;>split<;>omega
 ·have hi:i=xs.length:=by omega
  rw[hi,List.drop_of_length_le (by simp),aI,fq (by omega)] at p4
  rw[←p4]
  refine int_eq ?_
  omega
theorem N7(x:aN):x.sz≤1048576→aD Tryz.prog 16 [x.v] x.v:=by
 intro hsz S
 simp only[aN.sz,aN.aH,bH,bf,D.sz,List.length_map] at hsz
 refine aB (rs:=[.cell 2 55]) Tryz.checked.mixed Tryz.func16 Tryz.ntmps16 rfl rfl rfl rfl rfl ?_
 refine W1 ?_
 refine C1 (mq x.dZ (by omega)) ?_
 refine C1 (Pm x.aK (by omega)) ?_
 refine C1 (IQ x.ak (by omega)) ?_
 refine C1 (IZ x.aJ (by omega)) ?_
 exact C3 (I6 x.aM (by omega))
theorem KX(xs:List aN):xs.length+aI (xs.map aN.enc)≤1048576→aD Tryz.prog 71 [.c (.d (.sl (xs.map aN.enc)))] (.c (.d (.sl (xs.map aN.enc)))):=by
 intro hsz S
 refine aB (rs:=[.tmp 2]) Tryz.checked.mixed Tryz.func71 Tryz.ntmps71 rfl rfl rfl rfl rfl ?_
 refine W1 ?_
 refine W3 ?_
 refine aR (ι:=Nat×List (List D)) Tryz.checked.mixed rfl [0,3,4] (fun y=>[.c (.d (.sl (xs.map aN.enc))),.c (.jd (0,0)),.c (.d (.i .i64 y.1))]) (fun y=>[.eT 6 y.2]::S)
  (fun y=>y.1≤xs.length∧fI 6 y.1 y.2 (xs.map aN.enc)) (fun y=>xs.length-y.1) (0,_) rfl rfl ⟨Nat.zero_le _,fI.start (by simp) rfl⟩ ?_
 rintro⟨i,R⟩ ⟨p1,p2⟩
 simp only at p1 p2
 refine W1 ?_
 refine S0 (fun hb h=>?_) fun hb h=>?_
 ·have hi:i<xs.length:=by omega
  have hx:xs[i].sz≤aI (xs.map aN.enc):=bD (List.mem_map_of_mem (List.getElem_mem hi))
  refine W3 ?_
  refine C1 (N7 xs[i] (by omega)) ?_
  have hR:=p2.1
  rw[List.length_map] at hR
  refine W3 ?_
  refine bF (i+1,_) (by simp only;omega) rfl rfl ⟨by simp only;omega,p2.step (by simp[hi,aN.aH]) rfl⟩
 ·have hi:i=xs.length:=by omega
  rw[p2.done (by rw[List.length_map];omega)]
theorem N8(x:aN):∀y:aN,x.sz≤1048576→aD Tryz.prog 18 [x.v,y.v] (.c (.d (.b (dec (x=y))))):=by
 intro y hsz S
 simp only[aN.sz,aN.aH,bH,bf,D.sz,List.length_map] at hsz
 refine aB (rs:=[.tmp 4]) Tryz.checked.mixed Tryz.func18 Tryz.ntmps18 rfl rfl rfl rfl rfl ?_
 refine W1 ?_
 refine S0 (fun hb h=>?_) fun hb h=>?_
 ·exact ay (aC (fun e=>h (by rw[e]))).symm
 have ni:=h
 clear h
 refine C1 (mD x.dZ _ (by omega)) ?_
 refine S0 (fun hb h=>?_) fun hb h=>?_
 ·exact ay (aC (fun e=>h (by rw[e]))).symm
 have ad3:=h
 clear h
 refine C1 (Po x.aK _ (by omega)) ?_
 refine S0 (fun hb h=>?_) fun hb h=>?_
 ·exact ay (aC (fun e=>h (by rw[e]))).symm
 have aav:=h
 clear h
 refine C1 (IU x.ak _ (by omega)) ?_
 refine S0 (fun hb h=>?_) fun hb h=>?_
 ·exact ay (aC (fun e=>h (by rw[e]))).symm
 have Tv:=h
 clear h
 refine C1 (I4 x.aJ _ (by omega)) ?_
 refine S0 (fun hb h=>?_) fun hb h=>?_
 ·exact ay (aC (fun e=>h (by rw[e]))).symm
 have Tw:=h
 clear h
 refine C1 (I7 x.aM _ (by omega)) ?_
 refine S0 (fun hb h=>?_) fun hb h=>?_
 ·exact ay (aC (fun e=>h (by rw[e]))).symm
 have Tx:=h
 clear h
 exact ay (bq (aN.ext' ni ad3 aav Tv Tw Tx)).symm
theorem KY(xs:List aN):∀ys:List aN,xs.length+aI (xs.map aN.enc)≤1048576→aD Tryz.prog 73 [.c (.d (.sl (xs.map aN.enc))),.c (.d (.sl (ys.map aN.enc)))] (.c (.d (.b (dec (xs=ys))))):=by
 intro ys hsz S
 refine aB (rs:=[.tmp 4]) Tryz.checked.mixed Tryz.func73 Tryz.ntmps73 rfl rfl rfl rfl rfl ?_
 refine W1 ?_
 refine S0 (fun hb h=>?_) fun hb h=>?_
 ·exact ay (aC (fun e=>h (by rw[e]))).symm
 have hl:xs.length=ys.length:=by omega
 refine aR (ι:=Nat) Tryz.checked.mixed rfl [0,1,5] (fun y=>[.c (.d (.sl (xs.map aN.enc))),.c (.d (.sl (ys.map aN.enc))),.c (.d (.i .i64 y))]) (fun y=>[]::S)
  (fun i=>i≤xs.length∧∀j,j<i→xs[j]? =ys[j]?) (fun y=>xs.length-y) 0 rfl rfl ⟨Nat.zero_le _,fun j h=>by omega⟩ ?_
 rintro i ⟨p1,p2⟩
 refine W1 ?_
 refine S0 (fun hb h=>?_) fun hb h=>?_
 ·have hi:i<xs.length:=by omega
  have hi':i<ys.length:=by omega
  have hx:xs[i].sz≤aI (xs.map aN.enc):=bD (List.mem_map_of_mem (List.getElem_mem hi))
  refine W3 ?_
  refine C1 (N8 xs[i] ys[i] (by omega)) ?_
  refine S0 (fun hb h=>?_) fun hb h=>?_
  ·exact ay (aC (fun e=>h (by simp only[e]))).symm
  refine bF (i+1) (by omega) rfl rfl ⟨by omega,fun j hj=> ?_⟩
  by_cases e:j=i
  ·subst e
   rw[List.getElem?_eq_getElem hi,List.getElem?_eq_getElem hi',h]
  ·exact p2 j (by omega)
 ·have hi:i=xs.length:=by omega
  refine ay (bq (List.ext_getElem? fun j=> ?_)).symm
  by_cases hj:j<i
  ·exact p2 j hj
  ·rw[List.getElem?_eq_none (by omega),List.getElem?_eq_none (by omega)]
end Go.Proofs.YtcfhnaohbaplhaaGreatDoor
