/-
  SEVERAL TEXTS IN ONE (merged by program): contracts and models, each with its own heading.
-/
import Derived.Test.YtcfhnaohbaplhaaGreatDoorPartTgbD
set_option linter.unusedSimpArgs false
set_option linter.unusedVariables false
set_option maxRecDepth 4000
namespace Go.Proofs.YtcfhnaohbaplhaaGreatDoor
open Go Go.Ab
set_option maxHeartbeats 8000000 in
theorem O3:∀n:Nat,∀x:au,SizeOf.sizeOf x<n→x.sz≤4194304→aD Tryz.prog 196 [x.v] (.c (.d (.b (gV x)))):=by
 intro n
 induction n with
 |zero=>intro x h;omega
 |succ n ih=>
  intro x hn hsz S
  have hb0:=au.bounds hsz
  have iW:=au.fD x
  have rX:=au.nu x
  have he:=sS x
  have hv0:=Km
  have hop:x.fName∈ops→validName x.fName=false:=M0
  refine(show(qy x→ ?T)→_ from fun tail=> ?main) ?tp
  case' main=>
   rcases GI x.aU with hk|hk|hk|hk|hk|hk|hk|hk|hk|hk|hk|hk|hk
   ·have h1:gV x=false:=by rw[he,aC (fun h=>by have:=h.1;omega)];rfl
    refine aB (rs:=[.tmp 2]) Tryz.checked.mixed Tryz.func196 Tryz.ntmps196 rfl rfl rfl rfl rfl ?_
    refine W1 ?_
    refine C1 (JN _) ?_
    refine C1 (zA _ _ _) ?_
    refine S0 (fun hb h=>?_) fun hb h=>?_
    ·rw[h1]
    ·omega
   all_goals
    have hf0:¬qy x→V.c (.d (.b false))=V.c (.d (.b (gV x))):=fun h=>ay (by rw[he,aC h];rfl)
    refine aB (rs:=[.tmp 2]) Tryz.checked.mixed Tryz.func196 Tryz.ntmps196 rfl rfl rfl rfl rfl ?_
    simp -implicitDefEqProofs (disch:=omega) only[go_sem,hk]
    refine bN (JN _) ?_
    simp -implicitDefEqProofs (disch:=omega) only[go_sem,hk,Sn,Sq,Sr,Sv,Sw,Sy,or_false,or_true,true_or,false_or]
    refine bN (zA _ _ _) ?_
    simp -implicitDefEqProofs (disch:=omega) only[go_sem,hk]
    repeat' (first
     |with_reducible refine eX (fun hb=> ?_) (fun hb=> ?_)<;>have h:=hb<;>(try simp only[wf_preprocess] at h)<;>simp -implicitDefEqProofs (disch:=omega) only[go_sem,hb,hk]<;>refine W3 ?_
     |((with_reducible show dW _ _ 159 _ _ _ _);refine bN (fQ x.fName (by omega)) ?_;simp -implicitDefEqProofs (disch:=omega) only[go_sem,hk])
     |((with_reducible show dW _ _ 159 _ _ _ _);refine bN (fQ x.bI (by omega)) ?_;simp -implicitDefEqProofs (disch:=omega) only[go_sem,hk])
     |((with_reducible show dW _ _ 282 _ _ _ _);refine bN (Sz x.fName) ?_;simp -implicitDefEqProofs (disch:=omega) only[go_sem,hk])
     |((with_reducible show dW _ _ 284 _ _ _ _);refine bN (GK x.fType) ?_;simp -implicitDefEqProofs (disch:=omega) only[go_sem,hk])
     |((with_reducible show dW _ _ 283 _ _ _ _);refine bN (sF x.fType (by omega)) ?_;simp -implicitDefEqProofs (disch:=omega) only[go_sem,hk])
     |((with_reducible show dW _ _ 243 _ _ _ _);refine bN (zA x.fN _ _) ?_;simp -implicitDefEqProofs (disch:=omega) only[go_sem,hk])
     |(refine hf0 fun hF=> ?_;simp only[qy,hk,or_false,or_true,true_or,false_or,and_true,true_and,if_true,if_false,↓reduceIte,Int.reduceEq,Int.reduceLT,Int.reduceLE] at hF;grind [iN,iH,bq,aC]))
   all_goals
    have hF:qy x:=by simp only[qy,hk,or_false,or_true,true_or,false_or,and_true,true_and,if_true,if_false,↓reduceIte,Int.reduceEq,Int.reduceLT,Int.reduceLE];grind [iN,iH,bq,aC]
    refine oz (st':=[.box (x.enc.map .d)]::S) [1,9] [.c (.ptr (0,0) 0),.c (.d (.i .i64 0))] rfl (by simp -implicitDefEqProofs (disch:=omega) only[go_sem,hk]) ?_
    exact tail hF
  intro hF
  rw[bq hF,Bool.true_and] at he
  clear hF hop hv0
  refine aQ (ι:=Nat) Tryz.checked.mixed rfl [1,9] (fun i=>[.c (.ptr (0,0) 0),.c (.d (.i .i64 i))]) (fun _=>[.box (x.enc.map .d)]::S)
   (fun i=>i≤x.fArgs.length∧kW (x.fArgs.drop i)=kW x.fArgs) (fun i=>x.fArgs.length-i) 0 rfl ?_ ⟨Nat.zero_le _,rfl⟩ ?_
  ·exact Z1
  rintro i ⟨p1,p2⟩
  refine W1 ?_
  refine S0 (fun hb h=>?_) fun hb h=>?_
  ·have hi:i<x.fArgs.length:=by omega
   have hs:=List.sizeOf_lt_of_mem (List.getElem_mem hi)
   rw[MZ hi] at p2
   refine W3 ?_
   refine C2 (ih x.fArgs[i] (by omega) (au.arg_b hi hsz)) ?_
   refine S0 (fun hb h=>?_) fun hb h=>?_
   ·exact ay (by rw[he,←p2,h];rfl)
   ·exact bF (i+1) (by omega) rfl rfl ⟨by omega,by rw[←p2,h];rfl⟩
  rw[List.drop_of_length_le (by omega)] at p2
  have q:kW x.fArgs=true:=p2.symm
  clear p2 p1
  refine aQ (ι:=Nat) Tryz.checked.mixed rfl [1,10] (fun i=>[.c (.ptr (0,0) 0),.c (.d (.i .i64 i))]) (fun _=>[.box (x.enc.map .d)]::S)
   (fun i=>i≤x.aW.length∧nG (x.aW.drop i)=nG x.aW) (fun i=>x.aW.length-i) 0 rfl ?_ ⟨Nat.zero_le _,rfl⟩ ?_
  ·exact Z1
  rintro i ⟨p1,p2⟩
  refine W1 ?_
  refine S0 (fun hb h=>?_) fun hb h=>?_
  ·have hi:i<x.aW.length:=by omega
   have hs:=List.sizeOf_lt_of_mem (List.getElem_mem hi)
   have hs':=aX.mG x.aW[i]
   have hab:=aX.bounds (au.KV hi hsz)
   rw[OJ hi] at p2
   have no:um x.aW[i]=false→V.c (.d (.b false))=V.c (.d (.b (gV x))):=fun h=>ay (by rw[he,←p2,h];simp)
   refine W3 ?_
   refine C2 (fQ x.aW[i].dw (by omega)) ?_
   refine S0 (fun hb h=>?_) fun hb h=>?_
   ·exact no (by rw[ow,h];rfl)
   have k1:=h
   refine W3 ?_
   refine C2 (F3 x.aW[i].aF (by omega) hab.2.2.1) ?_
   refine S0 (fun hb h=>?_) fun hb h=>?_
   ·exact no (by rw[ow];unfold gP;rw[h];simp)
   have k2:=h
   refine W3 ?_
   refine C2 (mI x.aW[i].aF (by omega)) ?_
   refine S0 (fun hb h=>?_) fun hb h=>?_
   ·exact no (by rw[ow];unfold gP;rw[aC h];simp)
   have k3:=h
   refine W3 ?_
   refine C2 (ih x.aW[i].fBody (by omega) hab.2.2.2) ?_
   refine S0 (fun hb h=>?_) fun hb h=>?_
   ·exact no (by rw[ow,h];simp)
   ·exact cu 1 (by decide) (i+1) (by omega) rfl rfl rfl rfl ⟨by omega,by rw[←p2,ow,k1,h];unfold gP;rw[k2,bq k3];rfl⟩
  ·rw[List.drop_of_length_le (by omega)] at p2
   exact ay (by rw[he,q,←p2];rfl)
theorem EF(x:au)(hsz:x.sz≤4194304):aD Tryz.prog 109 [x.v] (.c (.d (.b (og x)))):=fun S=>by
 have hs:=Xv (l:=300) (c:=x.cnt) (by omega)
 refine aB (rs:=[.tmp 2]) Tryz.checked.mixed Tryz.func109 Tryz.ntmps109 rfl rfl rfl rfl rfl ?_
 refine W1 ?_
 refine C2 (DY _ x (Nat.lt_succ_self _) hsz 300 (by omega) (by omega)) ?_
 rw[hs]
 refine S0 (fun hb h=>?_) fun hb h=>?_
 ·refine C2 (O3 _ x (Nat.lt_succ_self _) hsz) ?_
  exact ay (by unfold og;rw[bq (by omega)];rfl)
 ·exact ay (by unfold og;rw[aC (by omega)];rfl)
end Go.Proofs.YtcfhnaohbaplhaaGreatDoor
namespace Go.Ab
theorem Nq{x:au}(h:og x=true):gV x=true:=by rw[og,Bool.and_eq_true] at h;exact h.2
end Go.Ab
namespace Go.Proofs.YtcfhnaohbaplhaaGreatDoor
open Go Go.Ab
end Go.Proofs.YtcfhnaohbaplhaaGreatDoor
namespace Go.Ab
theorem aN.bounds{x:aN}(h:x.sz≤4194304):x.fName.length≤4194304∧x.aF.length≤4194304∧x.aG.length≤4194304∧∀s∈x.aF,s.length≤4194304:=by
 simp only[aN.sz,aN.aH,bL,bf,D.sz,List.length_map] at h
 refine⟨by omega,by omega,by omega,fun s hs=> ?_⟩
 have:=nX hs
 omega
theorem aN.KW{x:aN}{i:Nat}(hi:i<x.aG.length)(h:x.sz≤4194304):x.aG[i].sz≤4194304:=by
 have hx:x.aG[i].sz≤aI (x.aG.map aO.enc):=bD (List.mem_map_of_mem (List.getElem_mem hi))
 simp only[aN.sz,aN.aH,bL,bf,D.sz,List.length_map] at h
 omega
theorem aO.bounds{x:aO}(h:x.sz≤4194304):x.fName.length≤4194304∧x.eO.length≤4194304∧∀t∈x.eO,t.sz≤4194304:=by
 simp only[aO.sz,aO.aH,bL,bf,D.sz,List.length_map] at h
 refine⟨by omega,by omega,fun t ht=> ?_⟩
 have hx:t.sz≤aI (x.eO.map ah.enc):=bD (List.mem_map_of_mem ht)
 omega
noncomputable def mD(vars:List (List UInt8))(c:aO):Bool:=dec (c.eO.length≤4)&&jM vars c.eO
noncomputable def jO(d:aN):List (List UInt8):=d.aG.map aO.fName
noncomputable def eF(d:aN):Bool:=
 validName d.fName&&(dec (d.aF.length≤3)&&(gP d.aF&&(dec (1≤d.aG.length)&&(dec (d.aG.length≤5)&&(d.aG.all (mD d.aF)&&gP (jO d))))))
end Go.Ab
namespace Go.Proofs.YtcfhnaohbaplhaaGreatDoor
open Go Go.Ab
theorem yt(d:aN)(hsz:d.sz≤4194304):aD Tryz.prog 219 [d.v] (.c (.d (.b (eF d)))):=fun S=>by
 have hb0:=aN.bounds hsz
 have bad:∀i,∀hi:i<d.aG.length,mD d.aF d.aG[i]=false→eF d=false:=fun i hi h=>by
  have:d.aG.all (mD d.aF)=false:=Bool.eq_false_iff.2 fun hx=>by
   rw[List.all_eq_true.1 hx _ (List.getElem_mem hi)] at h;cases h
  unfold eF
  rw[this];simp
 refine aB (rs:=[.tmp 2]) Tryz.checked.mixed Tryz.func219 Tryz.ntmps219 rfl rfl rfl rfl rfl ?_
 refine W1 ?_
 refine W3 ?_
 refine nD 3 1 [] rfl (by simp) ?_
 refine aQ (ι:=Nat×List (List UInt8)) Tryz.checked.mixed rfl [1,3,4] (fun y=>[.c (.ptr (0,0) 0),.c (.bH (0,1) (y.2.map encS)),.c (.d (.i .i64 y.1))]) (fun y=>[.box (d.enc.map .d),.tok 1 (y.2.map encS)]::S)
  (fun y=>y.1≤d.aG.length∧y.2=(jO d).take y.1∧∀j,∀hj:j<d.aG.length,j<y.1→mD d.aF d.aG[j]=true) (fun y=>d.aG.length-y.1) (0,[]) rfl ?_ ⟨Nat.zero_le _,rfl,fun j _ h=>by simp only at h;omega⟩ ?_
 ·exact Z1
 rintro⟨i,names⟩ ⟨p1,p2,p3⟩
 simp only at p1 p2 p3
 have pl:names.length≤d.aG.length:=by rw[p2];simp[jO];omega
 refine W1 ?_
 refine S0 (fun hb h=>?_) fun hb h=>?_
 ·have hi:i<d.aG.length:=by omega
  have hc:=aO.bounds (aN.KW hi hsz)
  refine W3 ?_
  refine S0 (fun hb h=>?_) fun hb h=>?_
  ·rw[bad i hi (by unfold mD;rw[aC (by omega)];rfl)]
  have h1:=h
  refine W3 ?_
  refine C2 (JB d.aG[i].eO d.aF (by omega) hc.2.2 (by omega)) ?_
  refine S0 (fun hb h=>?_) fun hb h=>?_
  ·rw[bad i hi (by unfold mD;rw[h];simp)]
  have h2:=h
  refine W3 ?_
  rw[show List.map encS names++[[D.s d.aG[i].fName]]=List.map encS (names++[d.aG[i].fName]) by simp[encS]]
  exact bF (i+1,names++[d.aG[i].fName]) (by simp only;omega) rfl rfl ⟨by simp only;omega,by simp only;rw[p2,gG (by simpa [jO] using hi)];simp[jO],fun j hj hji=>by
   simp only at hji
   by_cases e:j=i
   ·subst e;unfold mD;rw[h2,bq (by omega)];rfl
   ·exact p3 j hj (by omega)⟩
 have hi:i=d.aG.length:=by omega
 have hn:names=jO d:=by rw[p2,List.take_of_length_le (by simp[jO];omega)]
 have hall:d.aG.all (mD d.aF)=true:=List.all_eq_true.2 fun c hc=>by
  obtain⟨j,hj,e⟩:=List.getElem_of_mem hc
  rw[←e];exact p3 j hj (by omega)
 have hnl:∀s∈names,s.length≤4194304:=fun s hs=>by
  rw[hn] at hs
  obtain⟨c,hc,e⟩:=List.mem_map.1 hs
  obtain⟨j,hj,e'⟩:=List.getElem_of_mem hc
  rw[←e,←e'];exact(aO.bounds (aN.KW hj hsz)).1
 have hlen:names.length=d.aG.length:=by rw[hn];simp[jO]
 refine C2 (fQ d.fName (by omega)) ?_
 refine S0 (fun hb h=>?_) fun hb h=>?_
 ·have h1:=h
  refine C2 (jV d.aF 3 (by omega) hb0.2.2.2) ?_
  refine S0 (fun hb h=>?_) fun hb h=>?_
  ·have h2:=h
   refine S0 (fun hb h=>?_) fun hb h=>?_
   ·have h3:=h
    refine C2 (jV names 5 (by omega) hnl) ?_
    refine ay ?_
    rw[Bool.and_eq_true] at h2
    have h4:=iN h2.1
    unfold eF
    rw[h1,h2.2,hall,←hn,bq (show d.aF.length≤3 by omega),bq (show 1≤d.aG.length by omega),hlen]
    simp only[Bool.true_and]
    congr 1
    exact gN ⟨fun h=>by omega,fun h=>by omega⟩
   ·refine ay ?_
    unfold eF
    rw[aC (show ¬1≤d.aG.length by omega)];simp
  ·refine ay ?_
   unfold eF
   have h2:(dec (d.aF.length≤3)&&gP d.aF)=false:=by
    rw[←h];congr 1;exact gN ⟨fun h=>by omega,fun h=>by omega⟩
   rw[←Bool.and_assoc (dec (d.aF.length≤3)),h2];simp
 ·exact ay (by unfold eF;rw[h];rfl)
theorem EG(d:aN)(hsz:d.sz≤4194304):aD Tryz.prog 173 [d.v] (.c (.d (.b (eF d)))):=fun S=>by
 have hb0:=aN.bounds hsz
 have bad:∀i,∀hi:i<d.aG.length,mD d.aF d.aG[i]=false→eF d=false:=fun i hi h=>by
  have:d.aG.all (mD d.aF)=false:=Bool.eq_false_iff.2 fun hx=>by
   rw[List.all_eq_true.1 hx _ (List.getElem_mem hi)] at h;cases h
  unfold eF
  rw[this];simp
 refine aB (rs:=[.tmp 2]) Tryz.checked.mixed Tryz.func173 Tryz.ntmps173 rfl rfl rfl rfl rfl ?_
 refine W1 ?_
 refine C2 (fP d.fName (by omega)) ?_
 refine S0 (fun hb h=>?_) fun hb h=>?_
 ·exact ay (by unfold eF;rw[h];rfl)
 have h1:=h
 refine S0 (fun hb h=>?_) fun hb h=>?_
 ·exact ay (by unfold eF;rw[aC (show ¬d.aF.length≤3 by omega)];simp)
 have h2:=h
 refine C2 (lV d.aF (by omega) hb0.2.2.2) ?_
 refine S0 (fun hb h=>?_) fun hb h=>?_
 ·exact ay (by unfold eF;rw[h];simp)
 have h3:=h
 refine S0 (fun hb h=>?_) fun hb h=>?_
 ·exact ay (by unfold eF;rw[aC (show ¬1≤d.aG.length by omega)];simp)
 have h4:=h
 refine S0 (fun hb h=>?_) fun hb h=>?_
 ·exact ay (by unfold eF;rw[aC (show ¬d.aG.length≤5 by omega)];simp)
 have h5:=h
 refine W3 ?_
 refine nD 3 1 [] rfl (by simp) ?_
 refine aQ (ι:=Nat×List (List UInt8)) Tryz.checked.mixed rfl [1,3,36,37,38] (fun y=>[.c (.ptr (0,0) 0),.c (.bH (0,1) (y.2.map encS)),.c (.d (.sl (d.aG.map aO.enc))),.c (.d (.i .i64 d.aG.length)),.c (.d (.i .i64 y.1))]) (fun y=>[.box (d.enc.map .d),.tok 1 (y.2.map encS)]::S)
  (fun y=>y.1≤d.aG.length∧y.2=(jO d).take y.1∧∀j,∀hj:j<d.aG.length,j<y.1→mD d.aF d.aG[j]=true) (fun y=>d.aG.length-y.1) (0,[]) rfl ?_ ⟨Nat.zero_le _,rfl,fun j _ h=>by simp only at h;omega⟩ ?_
 ·exact Z1
 rintro⟨i,names⟩ ⟨p1,p2,p3⟩
 simp only at p1 p2 p3
 have pl:names.length≤d.aG.length:=by rw[p2];simp[jO];omega
 refine W1 ?_
 refine S0 (fun hb h=>?_) fun hb h=>?_
 ·have hi:i<d.aG.length:=by omega
  have hc:=aO.bounds (aN.KW hi hsz)
  refine W3 ?_
  refine S0 (fun hb h=>?_) fun hb h=>?_
  ·rw[bad i hi (by unfold mD;rw[aC (by omega)];rfl)]
  have k1:=h
  refine W3 ?_
  refine C2 (uf d.aG[i].eO d.aF (by omega) hc.2.2 (by omega)) ?_
  refine S0 (fun hb h=>?_) fun hb h=>?_
  ·rw[bad i hi (by unfold mD;rw[h];simp)]
  have k2:=h
  refine W3 ?_
  rw[show List.map encS names++[[D.s d.aG[i].fName]]=List.map encS (names++[d.aG[i].fName]) by simp[encS]]
  exact cu 2 (by decide) (i+1,names++[d.aG[i].fName]) (by simp only;omega) rfl rfl rfl rfl ⟨by simp only;omega,by simp only;rw[p2,gG (by simpa [jO] using hi)];simp[jO],fun j hj hji=>by
   simp only at hji
   by_cases e:j=i
   ·subst e;unfold mD;rw[k2,bq (by omega)];rfl
   ·exact p3 j hj (by omega)⟩
 have hi:i=d.aG.length:=by omega
 have hn:names=jO d:=by rw[p2,List.take_of_length_le (by simp[jO];omega)]
 have hall:d.aG.all (mD d.aF)=true:=List.all_eq_true.2 fun c hc=>by
  obtain⟨j,hj,e⟩:=List.getElem_of_mem hc
  rw[←e];exact p3 j hj (by omega)
 have hnl:∀s∈names,s.length≤4194304:=fun s hs=>by
  rw[hn] at hs
  obtain⟨c,hc,e⟩:=List.mem_map.1 hs
  obtain⟨j,hj,e'⟩:=List.getElem_of_mem hc
  rw[←e,←e'];exact(aO.bounds (aN.KW hj hsz)).1
 refine C2 (lV names (by omega) hnl) ?_
 exact ay (by unfold eF;rw[h1,h3,hall,←hn,bq (show d.aF.length≤3 by omega),bq (show 1≤d.aG.length by omega),bq (show d.aG.length≤5 by omega)];simp)
end Go.Proofs.YtcfhnaohbaplhaaGreatDoor
namespace Go.Ab
def KX:List UInt8:=[100,97,116,97]
def Ct(c:aO):aj:=bR ([bO c.fName]++c.eO.map cB)
def baseD(d:aN):List aj:=[bO KX,bO d.fName,bR (aT d.aF)]
def yR(d:aN):aj:=bR (baseD d++d.aG.map Ct)
noncomputable def za(d:aN):aj:=qV (eF d) (yR d)
def Nr:List aO→Nat
 |[]=>0
 |x::xs=>x.sz+Nr xs
theorem EH:∀l,aI (l.map aO.enc)=Nr l
 |[]=>rfl
 |x::xs=>by rw[List.map_cons,aI,Nr,EH xs];rfl
theorem Cu(x:aO):x.sz=x.fName.length+(x.eO.length+F4 x.eO):=by
 rw[←xW];simp only[aO.sz,aO.aH,bL,D.sz,List.length_map];omega
theorem AQ(x:aN):x.sz=x.fName.length+(x.aF.length+(x.aF.map List.length).sum)+(x.aG.length+Nr x.aG):=by
 rw[←EH,←dA];simp only[aN.sz,aN.aH,bL,D.sz,List.length_map];omega
theorem abm(c:aO):(Ct c).sz≤1+16*c.sz:=by
 have:=F5 c.eO
 rw[Ct,iI,gJ,List.length_append,List.length_map,Cu]
 simp[fu,iQ];omega
theorem Qa:∀l:List aO,fu (l.map Ct)≤l.length+16*Nr l
 |[]=>by simp[fu]
 |c::l=>by
  have h1:=abm c
  have h2:=Qa l
  rw[List.map_cons,fu,Nr,List.length_cons];omega
theorem Vo(d:aN):(yR d).sz≤7+16*d.sz:=by
 have:=Qa d.aG
 rw[yR,iI,gJ,List.length_append,List.length_map,AQ]
 simp[baseD,fu,iQ,iI,iD,ng,KX];omega
theorem Cv(n:Nat)(a b:List UInt8)(w:List (List UInt8)):lx [bO a,bO b,bR (aT w)] (n+1)=[[.s a,.ol (n+1) []],[.s b,.ol (n+1+1) []],[.s [],.ol (n+1+1+1) (lx (aT w) (n+1+1+1+1))]]:=by
 simp only[iA,kC,iy,jk,jl,dJ,cO,iO]
theorem sG{vars:List (List UInt8)}{ts:List ah}(h:jM vars ts=true):iP ts=true:=rW.2 fun t ht=>by
 have:=List.all_eq_true.1 h t ht
 unfold fE at this
 rw[Bool.and_eq_true] at this
 exact ug this.1
theorem IJ{d:aN}(h:eF d=true):∀c∈d.aG,iP c.eO=true:=fun c hc=>by
 have h1:d.aG.all (mD d.aF)=true:=by
  unfold eF at h
  simp only[Bool.and_eq_true] at h
  simp_all
 have h2:=List.all_eq_true.1 h1 c hc
 unfold mD at h2
 rw[Bool.and_eq_true] at h2
 exact sG h2.2
theorem JO{l:List ah}{t:ah}(h:t∈l):t.sz≤F4 l:=by
 rw[←xW];exact bD (List.mem_map_of_mem h)
theorem GL{l:List aO}{t:aO}(h:t∈l):t.sz≤Nr l:=by
 rw[←EH];exact bD (List.mem_map_of_mem h)
end Go.Ab
namespace Go.Proofs.YtcfhnaohbaplhaaGreatDoor
open Go Go.Ab
theorem yS(d:aN)(n:Nat)(hv:eF d=true)(hsz:d.sz≤1048576):aD Tryz.prog 142 [d.v] (.agg [.d (.s []),.d (.ol n (lx (yR d).aY (n+1)))]):=fun S=>by
 have hdz:=AQ d
 have hfo:=IJ hv
 have hlen:d.aG.length≤1048576:=by omega
 obtain⟨L,hL⟩:∃L:Nat→Nat,L=fun i=>n+1+gB (baseD d++(d.aG.map Ct).take i):=⟨_,rfl⟩
 obtain⟨T,hT⟩:∃T:Nat→List (List D),T=fun i=>lx (baseD d++(d.aG.map Ct).take i) (n+1):=⟨_,rfl⟩
 have hT0:T 0=[[.s KX,.ol (n+1) []],[.s d.fName,.ol (n+1+1) []],[.s [],.ol (n+1+1+1) (lx (aT d.aF) (n+1+1+1+1))]]:=by
  rw[hT];simp only[List.take_zero,List.append_nil];exact Cv _ _ _ _
 have fM:∀i,(T i).length≤i+3:=fun i=>by
  rw[hT];simp only[eT,List.length_append]
  have:=List.length_take_le i (d.aG.map Ct)
  simp[baseD];omega
 have hTs:∀i (hi:i<d.aG.length),T i++[[.s [],.ol (L i) (lx ([bO d.aG[i].fName]++d.aG[i].eO.map cB) (L i+1))]]=T (i+1):=fun i hi=>by
  have:=uZ (base:=baseD d) (l:=d.aG.map Ct) (i:=i) (by rw[List.length_map];exact hi) (n+1)
  rw[List.getElem_map] at this
  rw[hT,hL];exact this
 have hTr:∀i,∀r∈T i,r.length=2:=fun i=>by rw[hT];exact iZ
 have hTe:T d.aG.length=lx (yR d).aY (n+1):=by
  rw[hT];simp only
  rw[List.take_of_length_le (by simp)];rfl
 clear hT hL
 refine mY (n) 1 (rs:=[.cell 2 78]) Tryz.checked.mixed Tryz.func142 Tryz.ntmps142 rfl rfl rfl rfl rfl ?_
 refine W1 ?_
 refine C1 (bY _ (n+1)) ?_
 refine C1 (bY _ (n+1+1)) ?_
 refine C1 (dN d.aF (by omega) (n+1+1+1)) ?_
 refine W3 ?_
 refine kV n 3 2 (T 0) (.inl ?_) (hTr 0) ?_
 ·rw[hT0];rfl
 refine kY (L 0) ?_
 refine aQ (ι:=Nat) Tryz.checked.mixed rfl [2,3,15,16,17] (fun i=>[.c (.ptr (0,3) 0),.c (.bH (0,4) (T i)),.c (.d (.sl (d.aG.map aO.enc))),.c (.d (.i .i64 d.aG.length)),.c (.d (.i .i64 i))])
  (fun i=>[.seed (L i),.seed 1,.box [.d (.s d.fName),.d (.sl (d.aF.map encS)),.d (.sl (d.aG.map aO.enc))],.box [.d (.s []),.bC []],.d9 n 2 (T i)]::S)
  (fun i=>i≤d.aG.length) (fun i=>d.aG.length-i) 0 rfl rfl (Nat.zero_le _) ?_
 intro i hi
 have hl:=fM i
 refine W1 ?_
 refine S0 (fun hb h=>?_) fun hb h=>?_
 ·have hi':i<d.aG.length:=by omega
  have hm:=List.getElem_mem hi'
  have hcz:=GL hm
  have hce:=Cu d.aG[i]
  have hs:=hTs i hi'
  refine W3 ?_
  refine C1 (bY _ (L i+1)) ?_
  refine C1 (vJ d.aG[i].eO 0 (L i+1+1) (hfo _ hm) (by omega) (fun t ht=>by have:=JO ht;omega)) ?_
  have hr:=iZ (l:=d.aG[i].eO.map cB) (n:=L i+1+1)
  have hl2:(lx (d.aG[i].eO.map cB) (L i+1+1)).length=d.aG[i].eO.length:=by rw[eT,List.length_map]
  refine W3 ?_
  refine C1 (jm _) ?_
  refine W3 ?_
  simp only[List.cons_append,List.nil_append,iA,q8,iO] at hs
  rw[hs]
  refine jd (L (i+1)) 4 (by decide) (i+1) (by omega) rfl rfl ?_ rfl (by omega)
  simp[gF,fG,V.refs,C.refs,iV]
 ·have hi':i=d.aG.length:=by omega
  refine dR rfl (iT 0 4 _ _) ?_
  refine W1 ?_
  rw[hi',hTe]
theorem DZ(d:aN)(hsz:d.sz≤1048576):aD Tryz.prog 131 [d.v] (za d).v:=fun S=>by
 have hz:=Vo d
 have hdz:=AQ d
 obtain⟨T,hT⟩:∃T:Nat→List (List D),T=fun i=>(baseD d++(d.aG.map Ct).take i).map aj.enc:=⟨_,rfl⟩
 have hT0:T 0=[[.s KX,.sl []],[.s d.fName,.sl []],[.s [],.sl ((aT d.aF).map aj.enc)]]:=by
  rw[hT];simp only[List.take_zero,List.append_nil,baseD,List.map_cons,List.map_nil,dX,iq]
 have fM:∀i,(T i).length≤i+3:=fun i=>by
  rw[hT];simp only[List.length_map,List.length_append]
  have:=List.length_take_le i (d.aG.map Ct)
  simp[baseD];omega
 have hTs:∀i (hi:i<d.aG.length),T i++[[.s [],.sl (([bO d.aG[i].fName]++d.aG[i].eO.map cB).map aj.enc)]]=T (i+1):=fun i hi=>by
  have:=gQ (base:=baseD d) (l:=d.aG.map Ct) (i:=i) (by rw[List.length_map];exact hi)
  rw[List.getElem_map] at this
  rw[hT];exact this
 have hTr:∀i,∀r∈T i,r.length=2:=fun i=>by rw[hT];exact jg
 have hTe:T d.aG.length=(yR d).aY.map aj.enc:=by
  rw[hT];simp only
  rw[List.take_of_length_le (by simp)];rfl
 clear hT
 refine aB (rs:=[.cell 2 78]) Tryz.checked.mixed Tryz.func131 Tryz.ntmps131 rfl rfl rfl rfl rfl ?_
 refine W1 ?_
 refine C1 (bJ _) ?_
 refine C1 (bJ _) ?_
 refine C1 (dG d.aF (by omega)) ?_
 have hE:=fun bM Ω=>iJ (T 0) (hTr 0) (by have:=fM 0;omega) bM Ω
 simp only[hT0] at hE
 refine kN [false] rfl (hE _ _) ?_
 refine W1 ?_
 refine aQ (ι:=Nat) Tryz.checked.mixed rfl [1,2,3,4] (fun i=>[.c (.ptr (0,0) 0),.c (.ptr (0,1) 0),.c (.ptr (0,4) 0),.c (.d (.i .i64 i))])
  (fun i=>[.box [.d (.s d.fName),.d (.sl (d.aF.map encS)),.d (.sl (d.aG.map aO.enc))],.box [.d (.s []),.bC []],.box [.d (.s []),.bH (0,3) (T 0)],.tok 2 (T i),.box [.d (.s []),.bH (0,3) (T i)]]::S)
  (fun i=>i≤d.aG.length) (fun i=>d.aG.length-i) 0 rfl (by simp only[hT0]<;>(try rfl)) (Nat.zero_le _) ?_
 intro i hi
 have hl:=fM i
 refine W1 ?_
 refine S0 (fun hb h=>?_) fun hb h=>?_
 ·have hi':i<d.aG.length:=by omega
  have hm:=List.getElem_mem hi'
  have hcz:=GL hm
  have hce:=Cu d.aG[i]
  have hs:=hTs i hi'
  refine W3 ?_
  refine C1 (bJ _) ?_
  refine W3 ?_
  refine C1 (wX d.aG[i].eO (by omega) (fun t ht=>by have:=JO ht;omega)) ?_
  have hr:=jg (l:=d.aG[i].eO.map cB)
  have hl2:((d.aG[i].eO.map cB).map aj.enc).length=d.aG[i].eO.length:=by rw[List.length_map,List.length_map]
  refine W3 ?_
  simp only[List.cons_append,List.nil_append,List.map_cons,dX] at hs
  rw[hs]
  exact cu 5 (by decide) (i+1) (by omega) rfl rfl rfl rfl (by omega)
 ·have hi':i=d.aG.length:=by omega
  subst hi'
  rw[hTe]
  refine C1 (yt d (by omega)) ?_
  refine C1 (ni (eF d) (yR d) (by omega)) ?_
  rfl
end Go.Proofs.YtcfhnaohbaplhaaGreatDoor
namespace Go.Ab
noncomputable def wD(k:Int)(n:List UInt8)(bound out:List (List UInt8)):List (List UInt8):=if k=3∧n∉bound∧n∉out then out++[n] else out
mutual
noncomputable def jq:au→List (List UInt8)→List (List UInt8)→List (List UInt8)
 | .mk k _ n _ _ a b,bound,out=>rF b bound (oJ a k n 0 bound (wD k n bound out))
noncomputable def oJ:List au→Int→List UInt8→Nat→List (List UInt8)→List (List UInt8)→List (List UInt8)
 |[],_,_,_,_,out=>out
 |x::xs,k,n,i,bound,out=>oJ xs k n (i+1) bound (jq x (if k=8∧i=1 then bound++[n] else bound) out)
noncomputable def rF:List aX→List (List UInt8)→List (List UInt8)→List (List UInt8)
 |[],_,out=>out
 |x::xs,bound,out=>rF xs bound (AR x bound out)
noncomputable def AR:aX→List (List UInt8)→List (List UInt8)→List (List UInt8)
 | .mk _ v b,bound,out=>jq b (bound++v) out
end
theorem Ns(x:au)(bound out:List (List UInt8)):jq x bound out=rF x.aW bound (oJ x.fArgs x.aU x.fName 0 bound (wD x.aU x.fName bound out)):=by cases x;rw[jq];rfl
theorem Nt(x:aX)(bound out:List (List UInt8)):AR x bound out=jq x.fBody (bound++x.aF) out:=by cases x;rw[AR];rfl
theorem GN{xs:List au}{k:Int}{n:List UInt8}{i:Nat}{bound out:List (List UInt8)}(hi:i<xs.length):oJ (xs.drop i) k n i bound out=oJ (xs.drop (i+1)) k n (i+1) bound (jq xs[i] (if k=8∧i=1 then bound++[n] else bound) out):=by
 rw[List.drop_eq_getElem_cons hi,oJ]
theorem GQ{xs:List aX}{i:Nat}{bound out:List (List UInt8)}(hi:i<xs.length):rF (xs.drop i) bound out=rF (xs.drop (i+1)) bound (AR xs[i] bound out):=by
 rw[List.drop_eq_getElem_cons hi,rF]
theorem EI(k:Int)(n:List UInt8)(bound out:List (List UInt8)):(wD k n bound out).length≤out.length+1:=by
 unfold wD;split<;>simp
mutual
theorem q9:∀(x:au) (bound out:List (List UInt8)),(jq x bound out).length≤out.length+x.cnt
 | .mk k t n m ty a b,bound,out=>by
   have h1:=EI k n bound out
   have h2:=JQ a k n 0 bound (wD k n bound out)
   have h3:=JR b bound (oJ a k n 0 bound (wD k n bound out))
   rw[jq,au.cnt];omega
theorem JQ:∀(xs:List au) (k:Int) (n:List UInt8) (i:Nat) (bound out:List (List UInt8)),(oJ xs k n i bound out).length≤out.length+au.dQ xs
 |[],k,n,i,bound,out=>by rw[oJ,au.dQ];omega
 |x::xs,k,n,i,bound,out=>by
  have h1:=q9 x (if k=8∧i=1 then bound++[n] else bound) out
  have h2:=JQ xs k n (i+1) bound (jq x (if k=8∧i=1 then bound++[n] else bound) out)
  rw[oJ,au.dQ];omega
theorem JR:∀(xs:List aX) (bound out:List (List UInt8)),(rF xs bound out).length≤out.length+aX.dQ xs
 |[],bound,out=>by rw[rF,aX.dQ];omega
 |x::xs,bound,out=>by
  have h1:=Vp x bound out
  have h2:=JR xs bound (AR x bound out)
  rw[rF,aX.dQ];omega
theorem Vp:∀(x:aX) (bound out:List (List UInt8)),(AR x bound out).length≤out.length+x.cnt
 | .mk c v b,bound,out=>by
   have h1:=q9 b (bound++v) out
   rw[AR,aX.cnt];omega
end
theorem au.qU{x:au}{i:Nat}(hi:i<x.fArgs.length):x.fArgs[i].sz+x.fArgs.length≤x.sz:=by
 have hx:x.fArgs[i].sz≤aI (x.fArgs.map au.enc):=bD (List.mem_map_of_mem (List.getElem_mem hi))
 have:=au.xZ x
 omega
theorem au.Vq{x:au}{i:Nat}(hi:i<x.aW.length):x.aW[i].sz+x.aW.length≤x.sz:=by
 have hx:x.aW[i].sz≤aI (x.aW.map aX.enc):=bD (List.mem_map_of_mem (List.getElem_mem hi))
 have:=au.xZ x
 omega
theorem aX.Qb(x:aX):x.aF.length+x.fBody.sz≤x.sz:=by
 simp only[aX.sz,aX.aH,au.sz,bL,bf,D.sz,List.length_map]
 omega
theorem Dg(xs:List (List UInt8))(s:List UInt8):xs.map encS++[[D.s s]]=(xs++[s]).map encS:=by simp[encS]
end Go.Ab
namespace Go.Proofs.YtcfhnaohbaplhaaGreatDoor
open Go Go.Ab
set_option maxHeartbeats 2000000 in
theorem Cw:∀N:Nat,∀x:au,SizeOf.sizeOf x<N→x.sz≤4194304→∀(bound out:List (List UInt8)) (l j:Nat) (S:Store),bK S (l,j)=some (.tok 1 (out.map encS))→out.length+x.cnt≤1073741824→bound.length+x.sz≤1073741824→
 dF Tryz.prog 365 [.c (.bH (l,j) (out.map encS)),x.v,.c (.d (.sl (bound.map encS)))] S (fun r S'=>r=.c (.bH (l,j) ((jq x bound out).map encS))∧S'=bZ S (l,j) (.tok 1 ((jq x bound out).map encS)))
 |0=>fun x h=>by omega
 |N+1=>by
  have ih:=Cw N
  intro x hn hsz bound out l j S hk hc hbd
  have hb0:=au.xZ x
  have iW:=au.fD x
  have rX:=au.nu x
  have hcn:=au.mR x
  have FU:∀y:Ab.Obj,bK (bZ S (l,j) y) (l,j)=some y:=fun y=>fV _ _ _ _ hk
  have hS0:bZ S (l,j) (.tok 1 (out.map encS))=S:=yI _ _ hk
  have fin:=Ns x bound out
  have hal:=EI x.aU x.fName bound out
  obtain⟨o1,ho1⟩:∃o1,wD x.aU x.fName bound out=o1:=⟨_,rfl⟩
  rw[ho1] at fin hal
  refine(show Hold ?T→_ from fun tail=> ?main) ?tp
  case' main=>
   refine aB (rs:=[.tmp 6]) Tryz.checked.mixed Tryz.func365 Tryz.ntmps365 rfl rfl rfl rfl rfl ?_
   simp -implicitDefEqProofs (disch:=omega) only[go_sem,hk]
   repeat' (first
    |(with_reducible refine eX (fun hb=> ?_) (fun hb=> ?_)<;>have h:=hb<;>(try simp only[wf_preprocess] at h)<;>simp -implicitDefEqProofs (disch:=omega) only[go_sem,hb,hk]<;>refine W3 ?_)
    |(refine bN (qR bound x.fName (by omega)) ?_;simp -implicitDefEqProofs (disch:=omega) only[go_sem,hk];refine W3 ?_)
    |(refine bN (qR out x.fName (by omega)) ?_;simp -implicitDefEqProofs (disch:=omega) only[go_sem,hk];refine W3 ?_))
   all_goals first
    |(have ha:wD x.aU x.fName bound out=out++[x.fName]:=if_pos ⟨by assumption,by assumption,by assumption⟩)
    |(have ha:wD x.aU x.fName bound out=out:=if_neg (fun y=>by have:=y.1;have:=y.2.1;have:=y.2.2;contradiction))
   all_goals
    refine oz (st':=[.box (x.enc.map .d)]::bZ S (l,j) (.tok 1 (o1.map encS))) [0,2,4,34,35,36] [.c (.bH (1+l,j) (o1.map encS)),.c (.d (.sl (bound.map encS))),.c (.ptr (0,0) 0),.c (.d (.sl (x.fArgs.map au.enc))),.c (.d (.i .i64 x.fArgs.length)),.c (.d (.i .i64 0))] ?_ ?_ ?_
    ·first|(rw[←ho1,ha];rfl)|(rw[←ho1,ha,←Dg];rfl)
    ·first|(rw[←ho1,ha,hS0];exact Z1;done)|(rw[←ho1,ha,←Dg];exact Z1;done)
    ·exact tail.out
  refine⟨?_⟩
  clear ho1
  refine aQ (ι:=Nat×List (List UInt8)) Tryz.checked.mixed rfl [0,2,4,34,35,36] (fun y=>[.c (.bH (1+l,j) (y.2.map encS)),.c (.d (.sl (bound.map encS))),.c (.ptr (0,0) 0),.c (.d (.sl (x.fArgs.map au.enc))),.c (.d (.i .i64 x.fArgs.length)),.c (.d (.i .i64 y.1))]) (fun y=>[.box (x.enc.map .d)]::bZ S (l,j) (.tok 1 (y.2.map encS)))
   (fun y=>y.1≤x.fArgs.length∧y.2.length+au.dQ (x.fArgs.drop y.1)+aX.dQ x.aW≤1073741824∧oJ (x.fArgs.drop y.1) x.aU x.fName y.1 bound y.2=oJ x.fArgs x.aU x.fName 0 bound o1) (fun y=>x.fArgs.length-y.1) (0,o1) rfl rfl ⟨Nat.zero_le _,by simp only[List.drop_zero];omega,rfl⟩ ?_
  rintro⟨i,o⟩ ⟨p1,p2,p3⟩
  have refs:∀{a b},gF 1 (fG [0,2,4,34,35,36] [.c (.bH (1+l,j) a),.c (.d (.sl (bound.map encS))),.c (.ptr (0,0) 0),.c (.d (.sl (x.fArgs.map au.enc))),.c (.d (.i .i64 x.fArgs.length)),.c (.d (.i .i64 b))])=true:=fun {a b}=>by simp[gF,fG,V.refs,C.refs,iV];omega
  simp only at p1 p2 p3
  refine W1 ?_
  refine S0 (fun hb h=>?_) fun hb h=>?_
  ·have hi:i<x.fArgs.length:=by omega
   have hs:=List.sizeOf_lt_of_mem (List.getElem_mem hi)
   have hz:=au.qU hi
   rw[GN hi] at p3
   rw[au.kr hi] at p2
   have hlo:=q9 x.fArgs[i] (if x.aU=8∧i=1 then bound++[x.fName] else bound) o
   refine W3 ?_
   have two:x.fArgs[i].sz+(bound.length+1)≤1073741824:=by omega
   repeat' (first|refine S0 (fun hb h=>?_) fun hb h=>?_)
   ·
    have e1:x.aU=8∧i=1:=⟨by omega,by omega⟩
    rw[if_pos e1] at p3 hlo
    refine aaE rfl DS.push (Vl bound (by omega) _ _) ?_
    refine W1 ?_
    refine W3 ?_
    rw[Dg]
    refine kN [true,true,false] rfl (ih x.fArgs[i] (by omega) (by omega) (bound++[x.fName]) o (1+l) j _ (by refine W1 ?_;exact FU _) (by omega) (by simp only[List.length_append,List.length_cons,List.length_nil];omega)) ?_
    simp -implicitDefEqProofs (disch:=omega) only[go_sem,nU]
    exact cu 1 (by decide) (i+1,jq x.fArgs[i] (bound++[x.fName]) o) (by simp only;omega) rfl rfl refs rfl ⟨by simp only;omega,by simp only;omega,p3⟩
   all_goals
    have e1:¬(x.aU=8∧i=1):=fun h=>by omega
    rw[if_neg e1] at p3 hlo
    refine dR rfl (ih x.fArgs[i] (by omega) (by omega) bound o (1+l) j _ (by refine W1 ?_;exact FU _) (by omega) (by omega)) ?_
    simp -implicitDefEqProofs (disch:=omega) only[go_sem,nU]
    exact cu 1 (by decide) (i+1,jq x.fArgs[i] bound o) (by simp only;omega) rfl rfl refs rfl ⟨by simp only;omega,by simp only;omega,p3⟩
  have hi:i=x.fArgs.length:=by omega
  rw[hi,List.drop_length] at p2 p3
  rw[au.dQ] at p2
  rw[oJ] at p3
  rw[←p3] at fin
  clear p3 refs
  refine aQ (ι:=Nat×List (List UInt8)) Tryz.checked.mixed rfl [0,2,63,64,65] (fun y=>[.c (.bH (1+l,j) (y.2.map encS)),.c (.d (.sl (bound.map encS))),.c (.d (.sl (x.aW.map aX.enc))),.c (.d (.i .i64 x.aW.length)),.c (.d (.i .i64 y.1))]) (fun y=>[.box (x.enc.map .d)]::bZ S (l,j) (.tok 1 (y.2.map encS)))
   (fun y=>y.1≤x.aW.length∧y.2.length+aX.dQ (x.aW.drop y.1)≤1073741824∧rF (x.aW.drop y.1) bound y.2=jq x bound out) (fun y=>x.aW.length-y.1) (0,o) rfl ?_ ⟨Nat.zero_le _,by simp only[List.drop_zero];omega,fin.symm⟩ ?_
  ·exact Z1
  clear p1 p2 fin hal
  rintro⟨i,o⟩ ⟨p1,p2,p3⟩
  have refs:∀a b,gF 1 (fG [0,2,63,64,65] [.c (.bH (1+l,j) a),.c (.d (.sl (bound.map encS))),.c (.d (.sl (x.aW.map aX.enc))),.c (.d (.i .i64 x.aW.length)),.c (.d (.i .i64 b))])=true:=fun a b=>by simp[gF,fG,V.refs,C.refs,iV];omega
  simp only at p1 p2 p3
  refine W1 ?_
  refine S0 (fun hb h=>?_) fun hb h=>?_
  ·have hi:i<x.aW.length:=by omega
   have hs:=List.sizeOf_lt_of_mem (List.getElem_mem hi)
   have hs':=aX.mG x.aW[i]
   have hz:=au.Vq hi
   have hz':=aX.Qb x.aW[i]
   rw[GQ hi,Nt] at p3
   rw[aX.kr hi] at p2
   have hlo:=q9 x.aW[i].fBody (bound++x.aW[i].aF) o
   have hcc:=Sj [bound,x.aW[i].aF] (by simp) (by simp only[List.flatten_cons,List.flatten_nil,List.append_nil,List.length_append];omega)
   simp only[List.map_cons,List.map_nil,List.flatten_cons,List.flatten_nil,List.append_nil] at hcc
   refine W3 ?_
   refine bN hcc ?_
   refine W1 ?_
   refine dR rfl (ih x.aW[i].fBody (by omega) (by omega) (bound++x.aW[i].aF) o (1+l) j _ (by refine W1 ?_;exact FU _) (by omega) (by simp only[List.length_append];omega)) ?_
   simp -implicitDefEqProofs (disch:=omega) only[go_sem,nU]
   exact cu 1 (by decide) (i+1,jq x.aW[i].fBody (bound++x.aW[i].aF) o) (by simp only;omega) rfl rfl (refs _ _) rfl ⟨by simp only;omega,by simp only;omega,p3⟩
  ·have hi:i=x.aW.length:=by omega
   rw[hi,List.drop_length,rF] at p3
   rw[←p3]
   exact⟨rfl,rfl⟩
theorem GR(x:au)(hsz:x.sz≤4194304):aD Tryz.prog 337 [x.v] (.c (.d (.sl ((jq x [] []).map encS)))):=fun S=>by
 have hc:=au.jU x
 have h0:∀S,dF Tryz.prog 365 [.c (.bC []),x.v,.c (.d (.sl []))] S (fun r S'=>r=.c (.d (.sl ((jq x [] []).map encS)))∧S'=S):=fun S=>by
  refine dF.Xj 0 (es:=[]) (bn:=1) rfl (by simp) (Cw _ x (Nat.lt_succ_self _) hsz [] [] 0 0 ([.tok 1 []]::S) rfl (by simp;omega) (by simp;omega)) ?_
  rintro r fr S' ⟨rfl,h2⟩
  injection h2 with h2 h3
  exact⟨_,rfl,rfl,h3⟩
 refine aB (rs:=[.tmp 2]) Tryz.checked.mixed Tryz.func337 Tryz.ntmps337 rfl rfl rfl rfl rfl ?_
 refine W1 ?_
 refine W3 ?_
 refine kN [true,true,false] rfl (h0 _) ?_
 exact Z1
set_option maxHeartbeats 2000000 in
theorem Cx:∀N:Nat,∀x:au,SizeOf.sizeOf x<N→x.sz≤4194304→∀(bound out:List (List UInt8)) (l j:Nat) (S:Store),bK S (l,j)=some (.tok 1 (out.map encS))→out.length+x.cnt≤1073741824→bound.length+x.sz≤1073741824→
 dF Tryz.prog 373 [x.v,.c (.d (.sl (bound.map encS))),.c (.bH (l,j) (out.map encS))] S (fun r S'=>r=.c (.bH (l,j) ((jq x bound out).map encS))∧S'=bZ S (l,j) (.tok 1 ((jq x bound out).map encS)))
 |0=>fun x h=>by omega
 |N+1=>by
  have ih:=Cx N
  intro x hn hsz bound out l j S hk hc hbd
  have hb0:=au.xZ x
  have iW:=au.fD x
  have rX:=au.nu x
  have hcn:=au.mR x
  have FU:∀y:Ab.Obj,bK (bZ S (l,j) y) (l,j)=some y:=fun y=>fV _ _ _ _ hk
  have hS0:bZ S (l,j) (.tok 1 (out.map encS))=S:=yI _ _ hk
  have fin:=Ns x bound out
  have hal:=EI x.aU x.fName bound out
  obtain⟨o1,ho1⟩:∃o1,wD x.aU x.fName bound out=o1:=⟨_,rfl⟩
  rw[ho1] at fin hal
  refine(show Hold ?T→_ from fun tail=> ?main) ?tp
  case' main=>
   refine aB (rs:=[.tmp 6]) Tryz.checked.mixed Tryz.func373 Tryz.ntmps373 rfl rfl rfl rfl rfl ?_
   simp -implicitDefEqProofs (disch:=omega) only[go_sem,hk]
   repeat' (first
    |(with_reducible refine eX (fun hb=> ?_) (fun hb=> ?_)<;>have h:=hb<;>(try simp only[wf_preprocess] at h)<;>simp -implicitDefEqProofs (disch:=omega) only[go_sem,hb,hk]<;>refine W3 ?_)
    |(refine bN (pO bound x.fName (by omega)) ?_;simp -implicitDefEqProofs (disch:=omega) only[go_sem,hk];refine W3 ?_)
    |(refine bN (pO out x.fName (by omega)) ?_;simp -implicitDefEqProofs (disch:=omega) only[go_sem,hk];refine W3 ?_))
   all_goals first
    |(have ha:wD x.aU x.fName bound out=out++[x.fName]:=if_pos ⟨by assumption,by assumption,by assumption⟩)
    |(have ha:wD x.aU x.fName bound out=out:=if_neg (fun y=>by have:=y.1;have:=y.2.1;have:=y.2.2;contradiction))
   all_goals
    refine oz (st':=[.box (x.enc.map .d)]::bZ S (l,j) (.tok 1 (o1.map encS))) [1,2,3,7] [.c (.d (.sl (bound.map encS))),.c (.bH (1+l,j) (o1.map encS)),.c (.ptr (0,0) 0),.c (.d (.i .i64 0))] ?_ ?_ ?_
    ·first|(rw[←ho1,ha];rfl)|(rw[←ho1,ha,←Dg];rfl)
    ·first|(rw[←ho1,ha,hS0];exact Z1;done)|(rw[←ho1,ha,←Dg];exact Z1;done)
    ·exact tail.out
  refine⟨?_⟩
  clear ho1
  refine aQ (ι:=Nat×List (List UInt8)) Tryz.checked.mixed rfl [1,2,3,7] (fun y=>[.c (.d (.sl (bound.map encS))),.c (.bH (1+l,j) (y.2.map encS)),.c (.ptr (0,0) 0),.c (.d (.i .i64 y.1))]) (fun y=>[.box (x.enc.map .d)]::bZ S (l,j) (.tok 1 (y.2.map encS)))
   (fun y=>y.1≤x.fArgs.length∧y.2.length+au.dQ (x.fArgs.drop y.1)+aX.dQ x.aW≤1073741824∧oJ (x.fArgs.drop y.1) x.aU x.fName y.1 bound y.2=oJ x.fArgs x.aU x.fName 0 bound o1) (fun y=>x.fArgs.length-y.1) (0,o1) rfl rfl ⟨Nat.zero_le _,by simp only[List.drop_zero];omega,rfl⟩ ?_
  rintro⟨i,o⟩ ⟨p1,p2,p3⟩
  have refs:∀{a b},gF 1 (fG [1,2,3,7] [.c (.d (.sl (bound.map encS))),.c (.bH (1+l,j) a),.c (.ptr (0,0) 0),.c (.d (.i .i64 b))])=true:=fun {a b}=>by simp[gF,fG,V.refs,C.refs,iV];omega
  simp only at p1 p2 p3
  refine W1 ?_
  refine S0 (fun hb h=>?_) fun hb h=>?_
  ·have hi:i<x.fArgs.length:=by omega
   have hs:=List.sizeOf_lt_of_mem (List.getElem_mem hi)
   have hz:=au.qU hi
   rw[GN hi] at p3
   rw[au.kr hi] at p2
   have hlo:=q9 x.fArgs[i] (if x.aU=8∧i=1 then bound++[x.fName] else bound) o
   have two:x.fArgs[i].sz+(bound.length+1)≤1073741824:=by omega
   repeat' (first|refine S0 (fun hb h=>?_) fun hb h=>?_)
   ·have e1:x.aU=8∧i=1:=⟨by omega,by omega⟩
    rw[if_pos e1] at p3 hlo
    refine⟨yj,⟨_,rfl,rfl⟩,fun y hy=>(by cases hy),by omega,?_⟩
    refine W3 ?_
    rw[Dg]
    refine kN [true,false,true] rfl (ih x.fArgs[i] (by omega) (by omega) (bound++[x.fName]) o (1+l) j _ (by refine W1 ?_;exact FU _) (by omega) (by simp only[List.length_append,List.length_cons,List.length_nil];omega)) ?_
    simp -implicitDefEqProofs (disch:=omega) only[go_sem,nU]
    exact cu 1 (by decide) (i+1,jq x.fArgs[i] (bound++[x.fName]) o) (by simp only;omega) rfl rfl refs rfl ⟨by simp only;omega,by simp only;omega,p3⟩
   all_goals
    have e1:¬(x.aU=8∧i=1):=fun h=>by omega
    rw[if_neg e1] at p3 hlo
    refine W3 ?_
    refine dR rfl (ih x.fArgs[i] (by omega) (by omega) bound o (1+l) j _ (by refine W1 ?_;exact FU _) (by omega) (by omega)) ?_
    simp -implicitDefEqProofs (disch:=omega) only[go_sem,nU]
    exact cu 1 (by decide) (i+1,jq x.fArgs[i] bound o) (by simp only;omega) rfl rfl refs rfl ⟨by simp only;omega,by simp only;omega,p3⟩
  have hi:i=x.fArgs.length:=by omega
  rw[hi,List.drop_length] at p2 p3
  rw[au.dQ] at p2
  rw[oJ] at p3
  rw[←p3] at fin
  clear p3 refs
  refine aQ (ι:=Nat×List (List UInt8)) Tryz.checked.mixed rfl [1,2,3,9] (fun y=>[.c (.d (.sl (bound.map encS))),.c (.bH (1+l,j) (y.2.map encS)),.c (.ptr (0,0) 0),.c (.d (.i .i64 y.1))]) (fun y=>[.box (x.enc.map .d)]::bZ S (l,j) (.tok 1 (y.2.map encS)))
   (fun y=>y.1≤x.aW.length∧y.2.length+aX.dQ (x.aW.drop y.1)≤1073741824∧rF (x.aW.drop y.1) bound y.2=jq x bound out) (fun y=>x.aW.length-y.1) (0,o) rfl ?_ ⟨Nat.zero_le _,by simp only[List.drop_zero];omega,fin.symm⟩ ?_
  ·exact Z1
  clear p1 p2 fin hal
  rintro⟨i,o⟩ ⟨p1,p2,p3⟩
  have refs:∀a b,gF 1 (fG [1,2,3,9] [.c (.d (.sl (bound.map encS))),.c (.bH (1+l,j) a),.c (.ptr (0,0) 0),.c (.d (.i .i64 b))])=true:=fun a b=>by simp[gF,fG,V.refs,C.refs,iV];omega
  simp only at p1 p2 p3
  refine W1 ?_
  refine S0 (fun hb h=>?_) fun hb h=>?_
  ·have hi:i<x.aW.length:=by omega
   have hs:=List.sizeOf_lt_of_mem (List.getElem_mem hi)
   have hs':=aX.mG x.aW[i]
   have hz:=au.Vq hi
   have hz':=aX.Qb x.aW[i]
   rw[GQ hi,Nt] at p3
   rw[aX.kr hi] at p2
   have hlo:=q9 x.aW[i].fBody (bound++x.aW[i].aF) o
   refine⟨yj,⟨_,rfl,rfl⟩,fun y hy=>(by cases hy),by omega,⟨by omega,hi⟩,yj,⟨_,rfl,rfl⟩,by omega,?_⟩
   rw[←List.map_append]
   refine kN [true,false,true] rfl (ih x.aW[i].fBody (by omega) (by omega) (bound++x.aW[i].aF) o (1+l) j _ (by refine W1 ?_;exact FU _) (by omega) (by simp only[List.length_append];omega)) ?_
   simp -implicitDefEqProofs (disch:=omega) only[go_sem,nU]
   exact cu 1 (by decide) (i+1,jq x.aW[i].fBody (bound++x.aW[i].aF) o) (by simp only;omega) rfl rfl (refs _ _) rfl ⟨by simp only;omega,by simp only;omega,p3⟩
  ·have hi:i=x.aW.length:=by omega
   rw[hi,List.drop_length,rF] at p3
   rw[←p3]
   exact⟨rfl,rfl⟩
theorem GU(x:au)(hsz:x.sz≤4194304):aD Tryz.prog 355 [x.v] (.c (.d (.sl ((jq x [] []).map encS)))):=fun S=>by
 have hc:=au.jU x
 have h0:∀S,dF Tryz.prog 373 [x.v,.c (.d (.sl [])),.c (.bC [])] S (fun r S'=>r=.c (.d (.sl ((jq x [] []).map encS)))∧S'=S):=fun S=>by
  refine dF.Xj 2 (es:=[]) (bn:=1) rfl (by simp) (Cx _ x (Nat.lt_succ_self _) hsz [] [] 0 0 ([.tok 1 []]::S) rfl (by simp;omega) (by simp;omega)) ?_
  rintro r fr S' ⟨rfl,h2⟩
  injection h2 with h2 h3
  exact⟨_,rfl,rfl,h3⟩
 refine aB (rs:=[.tmp 2]) Tryz.checked.mixed Tryz.func355 Tryz.ntmps355 rfl rfl rfl rfl rfl ?_
 refine W1 ?_
 refine W3 ?_
 refine kN [true,false,true] rfl (h0 _) ?_
 exact Z1
end Go.Proofs.YtcfhnaohbaplhaaGreatDoor
namespace Go.Proofs.YtcfhnaohbaplhaaGreatDoor
open Go Go.Ab
theorem wJ:∀n:Nat,(∀x:ah,SizeOf.sizeOf x<n→∀y:ah,x.sz≤4194304→aD Tryz.prog 391 [x.v,y.v] (.c (.d (.b (dec (x=y))))))∧
 (∀xs:List ah,SizeOf.sizeOf xs<n→∀ys:List ah,xs.length+aI (xs.map ah.enc)≤4194304→aD Tryz.prog 406 [.c (.d (.sl (xs.map ah.enc))),.c (.d (.sl (ys.map ah.enc)))] (.c (.d (.b (dec (xs=ys))))))
 |0=>⟨fun x h=>by omega,fun x h=>by omega⟩
 |n+1=>by
  obtain⟨ih,BM⟩:=wJ n
  refine⟨fun x hn y hsz S=> ?_,fun xs hn ys hsz S=> ?_⟩
  ·have iW:=ah.fD x
   simp only[ah.sz,ah.aH,bL,bf,D.sz,List.length_map] at hsz
   refine aB (rs:=[.tmp 4]) Tryz.checked.mixed Tryz.func391 Tryz.ntmps391 rfl rfl rfl rfl rfl ?_
   refine W1 ?_
   refine S0 (fun hb h=>?_) fun hb h=>?_
   ·refine S0 (fun hb h=>?_) fun hb h=>?_
    ·refine W3 ?_
     refine C1 (BM x.fArgs (by omega) y.fArgs (by omega)) ?_
     refine ay (gN ⟨fun e=> ?_,fun e=>by rw[e]⟩)
     exact ah.ext ‹x.aU=y.aU› h e
    ·exact ay (aC (fun e=>h (by rw[e]))).symm
   ·exact ay (aC (fun e=>h (by rw[e]))).symm
  ·refine aB (rs:=[.tmp 4]) Tryz.checked.mixed Tryz.func406 Tryz.ntmps406 rfl rfl rfl rfl rfl ?_
   refine W1 ?_
   refine S0 (fun hb h=>?_) fun hb h=>?_
   ·exact ay (aC (fun e=>h (by rw[e]))).symm
   have hl:xs.length=ys.length:=by omega
   refine aQ (ι:=Nat) Tryz.checked.mixed rfl [0,1,5] (fun y=>[.c (.d (.sl (xs.map ah.enc))),.c (.d (.sl (ys.map ah.enc))),.c (.d (.i .i64 y))]) (fun y=>[]::S)
    (fun i=>i≤xs.length∧∀j,j<i→xs[j]? =ys[j]?) (fun y=>xs.length-y) 0 rfl rfl ⟨Nat.zero_le _,fun j h=>by omega⟩ ?_
   rintro i ⟨p1,p2⟩
   refine W1 ?_
   refine S0 (fun hb h=>?_) fun hb h=>?_
   ·have hi:i<xs.length:=by omega
    have hi':i<ys.length:=by omega
    have hx:xs[i].sz≤aI (xs.map ah.enc):=bD (List.mem_map_of_mem (List.getElem_mem hi))
    refine W3 ?_
    refine C1 (ih xs[i] (by have:=List.sizeOf_lt_of_mem (List.getElem_mem hi);omega) ys[i] (by omega)) ?_
    refine S0 (fun hb h=>?_) fun hb h=>?_
    ·exact ay (aC (fun e=>h (by simp only[e]))).symm
    refine bF (i+1) (by omega) rfl rfl ⟨by omega,fun j hj=> ?_⟩
    by_cases e:j=i
    ·subst e
     rw[List.getElem?_eq_getElem hi,List.getElem?_eq_getElem hi',h]
    ·exact p2 j (by omega)
   ·have hi:i=xs.length:=by omega
    refine ay (bq (List.ext_getElem? fun j=> ?_)).symm
    by_cases hj:j<i
    ·exact p2 j hj
    ·rw[List.getElem?_eq_none (by omega),List.getElem?_eq_none (by omega)]
theorem EJ(x y:ah)(h:x.sz≤4194304):aD Tryz.prog 391 [x.v,y.v] (.c (.d (.b (dec (x=y))))):=(wJ _).1 x (Nat.lt_succ_self _) y h
theorem wK:∀n:Nat,(∀x:ah,SizeOf.sizeOf x<n→∀y:ah,x.sz≤4194304→aD Tryz.prog 375 [x.v,y.v] (.c (.d (.b (dec (x=y))))))∧
 (∀xs:List ah,SizeOf.sizeOf xs<n→∀ys:List ah,xs.length+aI (xs.map ah.enc)≤4194304→aD Tryz.prog 393 [.c (.d (.sl (xs.map ah.enc))),.c (.d (.sl (ys.map ah.enc))),.c (.fn 375 [])] (.c (.d (.b (dec (xs=ys))))))
 |0=>⟨fun x h=>by omega,fun x h=>by omega⟩
 |n+1=>by
  obtain⟨ih,BM⟩:=wK n
  refine⟨fun x hn y hsz S=> ?_,fun xs hn ys hsz S=> ?_⟩
  ·have iW:=ah.fD x
   simp only[ah.sz,ah.aH,bL,bf,D.sz,List.length_map] at hsz
   refine aB (rs:=[.tmp 4]) Tryz.checked.mixed Tryz.func375 Tryz.ntmps375 rfl rfl rfl rfl rfl ?_
   refine W1 ?_
   refine S0 (fun hb h=>?_) fun hb h=>?_
   ·refine S0 (fun hb h=>?_) fun hb h=>?_
    ·refine W3 ?_
     refine C1 (BM x.fArgs (by omega) y.fArgs (by omega)) ?_
     refine ay (gN ⟨fun e=> ?_,fun e=>by rw[e]⟩)
     exact ah.ext ‹x.aU=y.aU› h e
    ·exact ay (aC (fun e=>h (by rw[e]))).symm
   ·exact ay (aC (fun e=>h (by rw[e]))).symm
  ·refine aB (rs:=[.tmp 6]) Tryz.checked.mixed Tryz.func393 Tryz.ntmps393 rfl rfl rfl rfl rfl ?_
   refine W1 ?_
   refine S0 (fun hb h=>?_) fun hb h=>?_
   ·exact ay (aC (fun e=>h (by rw[e]))).symm
   have hl:xs.length=ys.length:=by omega
   refine aQ (ι:=Nat) Tryz.checked.mixed rfl [1,2,15,16,17] (fun y=>[.c (.d (.sl (ys.map ah.enc))),.c (.fn 375 []),.c (.d (.sl (xs.map ah.enc))),.c (.d (.i .i64 xs.length)),.c (.d (.i .i64 y))]) (fun y=>[]::S)
    (fun i=>i≤xs.length∧∀j,j<i→xs[j]? =ys[j]?) (fun y=>xs.length-y) 0 rfl rfl ⟨Nat.zero_le _,fun j h=>by omega⟩ ?_
   rintro i ⟨p1,p2⟩
   refine W1 ?_
   refine S0 (fun hb h=>?_) fun hb h=>?_
   ·have hi:i<xs.length:=by omega
    have hi':i<ys.length:=by omega
    have hx:xs[i].sz≤aI (xs.map ah.enc):=bD (List.mem_map_of_mem (List.getElem_mem hi))
    refine W3 ?_
    refine C1 (ih xs[i] (by have:=List.sizeOf_lt_of_mem (List.getElem_mem hi);omega) ys[i] (by omega)) ?_
    refine S0 (fun hb h=>?_) fun hb h=>?_
    ·exact ay (aC (fun e=>h (by simp only[e]))).symm
    refine cu 0 (by decide) (i+1) (by omega) rfl rfl rfl rfl ⟨by omega,fun j hj=> ?_⟩
    by_cases e:j=i
    ·subst e
     rw[List.getElem?_eq_getElem hi,List.getElem?_eq_getElem hi',h]
    ·exact p2 j (by omega)
   ·have hi:i=xs.length:=by omega
    refine ay (bq (List.ext_getElem? fun j=> ?_)).symm
    by_cases hj:j<i
    ·exact p2 j hj
    ·rw[List.getElem?_eq_none (by omega),List.getElem?_eq_none (by omega)]
theorem EK(x y:ah)(h:x.sz≤4194304):aD Tryz.prog 375 [x.v,y.v] (.c (.d (.b (dec (x=y))))):=(wK _).1 x (Nat.lt_succ_self _) y h
end Go.Proofs.YtcfhnaohbaplhaaGreatDoor
namespace Go.Ab
theorem au.yu{x:au}(h:x.sz≤4194304):x.bI.length≤4194304∧x.fName.length≤4194304∧x.fType.sz≤4194304∧x.fArgs.length≤4194304∧x.aW.length≤4194304:=by
 simp only[au.sz,au.aH,bL,bf,D.sz,List.length_map,ah.dn] at h
 omega
theorem au.YI{x:au}{i:Nat}(hi:i<x.fArgs.length)(h:x.sz≤4194304):x.fArgs[i].sz≤4194304:=by
 have hx:x.fArgs[i].sz≤aI (x.fArgs.map au.enc):=bD (List.mem_map_of_mem (List.getElem_mem hi))
 simp only[au.sz,au.aH,bL,bf,D.sz,List.length_map,ah.dn] at h
 omega
theorem au.YJ{x:au}{i:Nat}(hi:i<x.aW.length)(h:x.sz≤4194304):x.aW[i].sz≤4194304:=by
 have hx:x.aW[i].sz≤aI (x.aW.map aX.enc):=bD (List.mem_map_of_mem (List.getElem_mem hi))
 simp only[au.sz,au.aH,bL,bf,D.sz,List.length_map,ah.dn] at h
 omega
theorem aX.yu{x:aX}(h:x.sz≤4194304):x.dw.length≤4194304∧x.aF.length≤4194304∧x.fBody.sz≤4194304:=by
 simp only[aX.sz,aX.aH,bL,bf,D.sz,List.length_map,au.dn] at h
 omega
end Go.Ab
namespace Go.Proofs.YtcfhnaohbaplhaaGreatDoor
open Go Go.Ab
theorem wL:∀n:Nat,∀x:au,SizeOf.sizeOf x<n→∀y:au,x.sz≤4194304→aD Tryz.prog 358 [x.v,y.v] (.c (.d (.b (dec (x=y)))))
 |0=>fun x h=>by omega
 |n+1=>by
  have ih:=wL n
  intro x hn y hsz S
  have iW:=au.fD x
  have rX:=au.nu x
  have hb0:=au.yu hsz
  have hargs:=Ei 358 x.fArgs y.fArgs (by omega) (fun u hu v=>by
   obtain⟨i,hi,e⟩:=List.getElem_of_mem hu
   have:=List.sizeOf_lt_of_mem hu
   exact ih u (by omega) v (by rw[←e];exact au.YI hi hsz))
  have adu:=FY 378 x.aW y.aW (by omega) (fun u hu v=>by
   obtain⟨i,hi,e⟩:=List.getElem_of_mem hu
   have hs:=List.sizeOf_lt_of_mem hu
   have hz:u.sz≤4194304:=by rw[←e];exact au.YJ hi hsz
   have hz':=aX.yu hz
   have KR:=aX.mG u
   intro S
   refine aB (rs:=[.tmp 4]) Tryz.checked.mixed Tryz.func378 Tryz.ntmps378 rfl rfl rfl rfl rfl ?_
   refine W1 ?_
   refine S0 (fun hb h=>?_) fun hb h=>?_
   ·have h1:=h
    refine C2 (UM u.aF v.aF (by omega)) ?_
    refine S0 (fun hb h=>?_) fun hb h=>?_
    ·have h2:=h
     refine C2 (ih u.fBody (by omega) v.fBody (by omega)) ?_
     exact ay (gN ⟨fun e=>aX.ext h1 h2 e,fun e=>by rw[e]⟩)
    ·exact ay (aC (fun e=>h (by rw[e]))).symm
   ·exact ay (aC (fun e=>h (by rw[e]))).symm)
  refine aB (rs:=[.tmp 4]) Tryz.checked.mixed Tryz.func358 Tryz.ntmps358 rfl rfl rfl rfl rfl ?_
  refine W1 ?_
  refine S0 (fun hb h=>?_) fun hb h=>?_
  ·have h1:=h
   refine S0 (fun hb h=>?_) fun hb h=>?_
   ·have h2:=h
    refine S0 (fun hb h=>?_) fun hb h=>?_
    ·have h3:=h
     refine S0 (fun hb h=>?_) fun hb h=>?_
     ·have h4:=h
      refine C2 (EK x.fType y.fType (by omega)) ?_
      refine S0 (fun hb h=>?_) fun hb h=>?_
      ·have h5:=h
       refine C2 (hargs) ?_
       refine S0 (fun hb h=>?_) fun hb h=>?_
       ·have h6:=h
        refine C2 (adu) ?_
        exact ay (gN ⟨fun e=>au.ext h1 h2 h3 h4 h5 h6 e,fun e=>by rw[e]⟩)
       ·exact ay (aC (fun e=>h (by rw[e]))).symm
      ·exact ay (aC (fun e=>h (by rw[e]))).symm
     ·exact ay (aC (fun e=>h (by rw[e]))).symm
    ·exact ay (aC (fun e=>h (by rw[e]))).symm
   ·exact ay (aC (fun e=>h (by rw[e]))).symm
  ·exact ay (aC (fun e=>h (by rw[e]))).symm
theorem EL(x y:au)(h:x.sz≤4194304):aD Tryz.prog 358 [x.v,y.v] (.c (.d (.b (dec (x=y))))):=wL _ x (Nat.lt_succ_self _) y h
theorem wM:∀n:Nat,∀x:au,SizeOf.sizeOf x<n→∀y:au,x.sz≤4194304→aD Tryz.prog 371 [x.v,y.v] (.c (.d (.b (dec (x=y)))))
 |0=>fun x h=>by omega
 |n+1=>by
  have ih:=wM n
  intro x hn y hsz S
  have iW:=au.fD x
  have rX:=au.nu x
  have hb0:=au.yu hsz
  refine aB (rs:=[.tmp 4]) Tryz.checked.mixed Tryz.func371 Tryz.ntmps371 rfl rfl rfl rfl rfl ?_
  refine W1 ?_
  refine S0 (fun hb h=>?_) fun hb h=>?_
  ·exact ay (aC (fun e=>h (by rw[e]))).symm
  have h1:=h
  refine S0 (fun hb h=>?_) fun hb h=>?_
  ·exact ay (aC (fun e=>h (by rw[e]))).symm
  have h2:=h
  refine S0 (fun hb h=>?_) fun hb h=>?_
  ·exact ay (aC (fun e=>h (by rw[e]))).symm
  have h3:=h
  refine S0 (fun hb h=>?_) fun hb h=>?_
  ·exact ay (aC (fun e=>h (by rw[e]))).symm
  have h4:=h
  refine C2 (EJ x.fType y.fType (by omega)) ?_
  refine S0 (fun hb h=>?_) fun hb h=>?_
  ·exact ay (aC (fun e=>h (by rw[e]))).symm
  have h5:=h
  refine S0 (fun hb h=>?_) fun hb h=>?_
  ·exact ay (aC (fun e=>h (by rw[e]))).symm
  have h6:x.fArgs.length=y.fArgs.length:=by omega
  refine S0 (fun hb h=>?_) fun hb h=>?_
  ·exact ay (aC (fun e=>h (by rw[e]))).symm
  have h7:x.aW.length=y.aW.length:=by omega
  refine aQ (ι:=Nat) Tryz.checked.mixed rfl [2,3,5] (fun i=>[.c (.ptr (0,0) 0),.c (.ptr (0,1) 0),.c (.d (.i .i64 i))]) (fun _=>[.box (x.enc.map .d),.box (y.enc.map .d)]::S)
   (fun i=>i≤x.fArgs.length∧∀j,j<i→x.fArgs[j]? =y.fArgs[j]?) (fun i=>x.fArgs.length-i) 0 rfl ?_ ⟨Nat.zero_le _,fun j h=>by omega⟩ ?_
  ·exact Z1
  rintro i ⟨p1,p2⟩
  refine W1 ?_
  refine S0 (fun hb h=>?_) fun hb h=>?_
  ·have hi:i<x.fArgs.length:=by omega
   have hi':i<y.fArgs.length:=by omega
   refine W3 ?_
   refine C2 (ih x.fArgs[i] (by have:=List.sizeOf_lt_of_mem (List.getElem_mem hi);omega) y.fArgs[i] (au.YI hi hsz)) ?_
   refine S0 (fun hb h=>?_) fun hb h=>?_
   ·exact ay (aC (fun e=>h (by simp only[e]))).symm
   refine bF (i+1) (by omega) rfl rfl ⟨by omega,fun j hj=> ?_⟩
   by_cases e:j=i
   ·subst e
    rw[List.getElem?_eq_getElem hi,List.getElem?_eq_getElem hi',h]
   ·exact p2 j (by omega)
  have hi:i=x.fArgs.length:=by omega
  have h8:x.fArgs=y.fArgs:=List.ext_getElem? fun j=>by
   by_cases hj:j<i
   ·exact p2 j hj
   ·rw[List.getElem?_eq_none (by omega),List.getElem?_eq_none (by omega)]
  refine aQ (ι:=Nat) Tryz.checked.mixed rfl [2,3,6] (fun i=>[.c (.ptr (0,0) 0),.c (.ptr (0,1) 0),.c (.d (.i .i64 i))]) (fun _=>[.box (x.enc.map .d),.box (y.enc.map .d)]::S)
   (fun i=>i≤x.aW.length∧∀j,j<i→x.aW[j]? =y.aW[j]?) (fun i=>x.aW.length-i) 0 rfl ?_ ⟨Nat.zero_le _,fun j h=>by omega⟩ ?_
  ·exact Z1
  clear p1 p2 hi hb h
  clear i
  rintro i ⟨p1,p2⟩
  refine W1 ?_
  refine S0 (fun hb h=>?_) fun hb h=>?_
  ·have hi:i<x.aW.length:=by omega
   have hi':i<y.aW.length:=by omega
   have hs:=List.sizeOf_lt_of_mem (List.getElem_mem hi)
   have hz:=aX.yu (au.YJ hi hsz)
   have KR:=aX.mG x.aW[i]
   refine W3 ?_
   refine S0 (fun hb h=>?_) fun hb h=>?_
   ·exact ay (aC (fun e=>h (by simp only[e]))).symm
   have k1:=h
   refine W3 ?_
   refine C2 (OG x.aW[i].aF y.aW[i].aF (by omega)) ?_
   refine S0 (fun hb h=>?_) fun hb h=>?_
   ·exact ay (aC (fun e=>h (by simp only[e]))).symm
   have k2:=h
   refine W3 ?_
   refine C2 (ih x.aW[i].fBody (by omega) y.aW[i].fBody (by omega)) ?_
   refine S0 (fun hb h=>?_) fun hb h=>?_
   ·exact ay (aC (fun e=>h (by simp only[e]))).symm
   have k3:=h
   refine bF (i+1) (by omega) rfl rfl ⟨by omega,fun j hj=> ?_⟩
   by_cases e:j=i
   ·subst e
    rw[List.getElem?_eq_getElem hi,List.getElem?_eq_getElem hi',aX.ext k1 k2 k3]
   ·exact p2 j (by omega)
  ·have hi:i=x.aW.length:=by omega
   have h9:x.aW=y.aW:=List.ext_getElem? fun j=>by
    by_cases hj:j<i
    ·exact p2 j hj
    ·rw[List.getElem?_eq_none (by omega),List.getElem?_eq_none (by omega)]
   exact ay (bq (au.ext h1 h2 h3 h4 h5 h8 h9)).symm
theorem EM(x y:au)(h:x.sz≤4194304):aD Tryz.prog 371 [x.v,y.v] (.c (.d (.b (dec (x=y))))):=wM _ x (Nat.lt_succ_self _) y h
end Go.Proofs.YtcfhnaohbaplhaaGreatDoor
namespace Go.Proofs.YtcfhnaohbaplhaaGreatDoor
open Go Go.Ab
theorem zK:∀n:Nat,∀t:ah,SizeOf.sizeOf t<n→t.sz≤4194304→∀v:List UInt8,aD Tryz.prog 354 [t.v,.c (.d (.s v))] (.c (.d (.i .i64 (nE v t))))
 |0=>fun t h=>by omega
 |n+1=>by
  have ih:=zK n
  intro t hn hsz v S
  have iW:=ah.fD t
  have hts:=BI hsz
  have hcl:=UH v t
  have hcn:=jU t
  have he:=UG v t
  refine aB (rs:=[.tmp 4]) Tryz.checked.mixed Tryz.func354 Tryz.ntmps354 rfl rfl rfl rfl rfl ?_
  refine W1 ?_
  repeat' (first|(refine S0 (fun hb h=>?_) fun hb h=>?_))
  all_goals first
   |(have hc:nE v t=1+rD v t.fArgs:=by rw[he,if_pos (by simp only[FM,decide_eq_true_eq];exact⟨by assumption,by assumption⟩)])
   |(have hc:nE v t=0+rD v t.fArgs:=by rw[he,if_neg (by simp only[FM,decide_eq_true_eq];exact fun x=>by have:=x.1;have:=x.2;contradiction)])
  all_goals
   refine aQ (ι:=Nat×Nat) Tryz.checked.mixed rfl [1,2,5,6] (fun y=>[.c (.d (.s v)),.c (.ptr (0,0) 0),.c (.d (.i .i64 y.2)),.c (.d (.i .i64 y.1))]) (fun _=>[.box [.d (.i .i64 t.aU),.d (.s t.fName),.d (.sl (t.fArgs.map ah.enc))]]::S)
    (fun y=>y.1≤t.fArgs.length∧nE v t=y.2+rD v (t.fArgs.drop y.1)) (fun y=>t.fArgs.length-y.1) (0,_) rfl rfl ⟨Nat.zero_le _,hc⟩ ?_
   rintro⟨i,c⟩ ⟨p1,p2⟩
   simp only at p1 p2
   refine W1 ?_
   refine S0 (fun hb h=>?_) fun hb h=>?_
   ·have hi:i<t.fArgs.length:=by omega
    rw[MF hi] at p2
    refine W3 ?_
    refine C2 (ih t.fArgs[i] (by have:=List.sizeOf_lt_of_mem (List.getElem_mem hi);omega) (xg hi hsz).1 v) ?_
    rw[show(c:Int)+(nE v t.fArgs[i]:Int)=((c+nE v t.fArgs[i]:Nat):Int) by omega]
    exact bF (i+1,c+nE v t.fArgs[i]) (by simp only;omega) rfl rfl ⟨by simp only;omega,by simp only;omega⟩
   ·have hi:i=t.fArgs.length:=by omega
    rw[hi,List.drop_length] at p2
    have h0:rD v []=0:=rfl
    exact int_eq (by omega)
theorem Kz(v:List UInt8)(t:ah)(hsz:t.sz≤4194304):aD Tryz.prog 306 [.c (.d (.s v)),t.v] (.c (.d (.b (occurs v t)))):=fun S=>by
 refine aB (rs:=[.tmp 4]) Tryz.checked.mixed Tryz.func306 Tryz.ntmps306 rfl rfl rfl rfl rfl ?_
 refine W1 ?_
 refine C2 (zK _ t (Nat.lt_succ_self _) hsz v) ?_
 exact ay (by unfold occurs;rw[Bool.eq_iff_iff];simp only[decide_eq_true_eq];omega)
end Go.Proofs.YtcfhnaohbaplhaaGreatDoor
namespace Go.Ab
def zeroE:au:=.mk 0 [] [] 0 (.mk 0 [] []) [] []
def Dh:List (List UInt8):=[[115,101,108,102]]
noncomputable def zL(vars:List (List UInt8))(e:au):Bool:=og e&&among (jq e [] []) vars
noncomputable def nJ(vars:List (List UInt8))(e:au):Bool:=gP vars&&zL vars e
noncomputable def kX(vars:List (List UInt8))(b:bA):Bool:=(validName b.bI&&kZ b.fType)&&(!nP b.fType&&among (iw [] b.fType) vars)
noncomputable def mP(vars:List (List UInt8))(bs:List bA):Bool:=dec (bs.length≤4)&&bs.all (kX vars)
noncomputable def gM(g:aS):Bool:=
 validName g.fName&&(dec (g.aZ.length≤4)&&(jM Dh g.aZ&&(fE Dh g.bT&&
  (if g.ig=true then dec (g.aF.length=g.aZ.length+1)&&nJ g.aF g.fBody else dec (g.aF.length=0)&&dec (g.fBody=zeroE)))))
theorem tu{xs:List ah}{t:ah}(h:t∈xs):t.sz≤aI (xs.map ah.enc):=bD (List.mem_map_of_mem h)
theorem mJ{xs:List bA}{t:bA}(h:t∈xs):t.sz≤aI (xs.map bA.enc):=bD (List.mem_map_of_mem h)
theorem aS.sum(x:aS):x.fName.length+(x.aZ.length+aI (x.aZ.map ah.enc))+x.bT.sz+(x.aF.length+aI (x.aF.map encS))+x.fBody.sz≤x.sz:=by
 simp only[aS.sz,aS.aH,bL,bf,D.sz,List.length_map,ah.dn,au.dn]
 omega
theorem bA.sum(x:bA):x.bI.length+x.fType.sz≤x.sz:=by
 simp only[bA.sz,bA.aH,bL,bf,D.sz,List.length_map,ah.dn]
 omega
theorem Nu(e:au)(h:e.sz≤4194304):(jq e [] []).length≤1073741824:=by
 have h1:=q9 e [] []
 have h2:=au.jU e
 simp at h1
 omega
theorem GV(t:ah)(h:t.sz≤4194304):(iw [] t).length≤1073741824:=by
 have h1:=vV t []
 have h2:=_root_.Go.Ab.jU t
 simp at h1
 omega
theorem D5(vars:List (List UInt8))(t:ah):fE vars t=(kZ t&&among (iw [] t) vars):=rfl
end Go.Ab
namespace Go.Proofs.YtcfhnaohbaplhaaGreatDoor
open Go Go.Ab
theorem Cy(vars:List (List UInt8))(e:au)(hv:vars.length≤1073741824)(hs:∀s∈vars,s.length≤4194304)(hsz:e.sz≤4194304):aD Tryz.prog 267 [.c (.d (.sl (vars.map encS))),e.v] (.c (.d (.b (nJ vars e)))):=fun S=>by
 refine aB (rs:=[.tmp 4]) Tryz.checked.mixed Tryz.func267 Tryz.ntmps267 rfl rfl rfl rfl rfl ?_
 refine W1 ?_
 refine C2 (lV vars hv hs) ?_
 refine S0 (fun hb h=>?_) fun hb h=>?_
 ·have h1:=h
  refine C2 (ED e hsz) ?_
  refine S0 (fun hb h=>?_) fun hb h=>?_
  ·have h2:=h
   refine C2 (GR e hsz) ?_
   refine C2 (vH _ vars (Nu e hsz) hv) ?_
   exact ay (by unfold nJ zL;rw[h1,h2];rfl)
  ·exact ay (by unfold nJ zL;rw[h];simp)
 ·exact ay (by unfold nJ;rw[h];rfl)
theorem AU(vars:List (List UInt8))(e:au)(hv:vars.length≤1073741824)(hsz:e.sz≤4194304):aD Tryz.prog 307 [e.v,.c (.d (.sl (vars.map encS)))] (.c (.d (.b (zL vars e)))):=fun S=>by
 have hlen:=Nu e hsz
 refine aB (rs:=[.tmp 4]) Tryz.checked.mixed Tryz.func307 Tryz.ntmps307 rfl rfl rfl rfl rfl ?_
 refine W1 ?_
 refine C2 (GU e hsz) ?_
 unfold zL
 generalize jq e [] []=xs at hlen ⊢
 refine aQ (ι:=Nat) Tryz.checked.mixed rfl [1,2,5,6] (fun i=>[.c (.d (.sl (vars.map encS))),.c (.ptr (0,0) 0),.c (.d (.sl (xs.map encS))),.c (.d (.i .i64 i))]) (fun _=>[.box (e.enc.map .d)]::S)
  (fun i=>i≤xs.length∧among (xs.drop i) vars=among xs vars) (fun i=>xs.length-i) 0 rfl ?_ ⟨Nat.zero_le _,rfl⟩ ?_
 ·exact Z1
 rintro i ⟨p1,p2⟩
 simp -implicitDefEqProofs (disch:=omega) only[go_sem,encS]
 with_reducible refine eX (fun hb=> ?_) (fun hb=> ?_)<;>have h:=hb<;>(try simp only[wf_preprocess] at h)<;>simp -implicitDefEqProofs (disch:=omega) only[go_sem,hb,encS]<;>refine W3 ?_
 ·have hi:i<xs.length:=by omega
  rw[List.drop_eq_getElem_cons hi] at p2
  have p3:among xs vars=(dec (xs[i]∈vars)&&among (xs.drop (i+1)) vars):=p2.symm
  refine W3 ?_
  refine C2 (pO vars xs[i] hv) ?_
  refine S0 (fun hb h=>?_) fun hb h=>?_
  ·exact ay (by rw[p3,aC h];simp)
  ·exact bF (i+1) (by omega) rfl rfl ⟨by omega,by rw[p3,bq h];rfl⟩
 ·rw[List.drop_of_length_le (by omega)] at p2
  have p3:among xs vars=true:=p2.symm
  refine W3 ?_
  refine C2 (EF e hsz) ?_
  exact ay (by rw[p3];simp)
theorem GX(vars:List (List UInt8))(hv:vars.length≤1073741824)(rest:List Ab.Obj)(S:Store)(b:bA)(hb:b.sz≤4194304):lT Tryz.prog 335 [((0,0),0)] ((.box [.d (.sl (vars.map encS))]::rest)::S) [b.v] (.c (.d (.b (!kX vars b)))):=fun F=>by
 have hs:=bA.sum b
 refine aB (rs:=[.tmp 3]) Tryz.checked.mixed Tryz.func335 Tryz.ntmps335 rfl rfl rfl rfl rfl ?_
 refine W1 ?_
 refine C2 (Dm b (by omega) (by omega)) ?_
 refine S0 (fun hb h=>?_) fun hb h=>?_
 ·exact ay (by unfold kX;rw[h];rfl)
 have h1:=h
 refine W3 ?_
 refine C2 (zC b.fType (by omega)) ?_
 refine S0 (fun hb h=>?_) fun hb h=>?_
 ·exact ay (by unfold kX;rw[h];simp)
 have h2:=h
 refine W3 ?_
 refine C2 (tZ b.fType (by omega)) ?_
 refine C2 (vH _ vars (GV _ (by omega)) hv) ?_
 exact ay (by unfold kX;rw[h1,h2];simp)
theorem Cz(bs:List bA)(vars:List (List UInt8))(hl:bs.length≤1073741824)(hz:∀b∈bs,b.sz≤4194304)(hv:vars.length≤1073741824):aD Tryz.prog 265 [.c (.d (.sl (bs.map bA.enc))),.c (.d (.sl (vars.map encS)))] (.c (.d (.b (mP vars bs)))):=fun S=>by
 have ha:(bs.any fun t=> !kX vars t)= !bs.all (kX vars):=by rw[List.not_all_eq_any_not]
 refine aB (rs:=[.tmp 4]) Tryz.checked.mixed Tryz.func265 Tryz.ntmps265 rfl rfl rfl rfl rfl ?_
 refine W1 ?_
 refine S0 (fun hb h=>?_) fun hb h=>?_
 ·have h1:=h
  refine W3 ?_
  refine dR rfl (Al 335 [((0,0),0)] _ bs (fun t=> !kX vars t) hl fun t hx=>GX vars hv [] S t (hz t hx)) ?_
  refine W1 ?_
  rw[ha]
  exact ay (by unfold mP;rw[bq (by omega)];simp)
 ·exact ay (by unfold mP;rw[aC (by omega)];rfl)
theorem D6(bs:List bA)(vars:List (List UInt8))(hl:bs.length≤1073741824)(hz:∀b∈bs,b.sz≤4194304)(hv:vars.length≤1073741824):aD Tryz.prog 305 [.c (.d (.sl (bs.map bA.enc))),.c (.d (.sl (vars.map encS)))] (.c (.d (.b (mP vars bs)))):=fun S=>by
 refine aB (rs:=[.tmp 4]) Tryz.checked.mixed Tryz.func305 Tryz.ntmps305 rfl rfl rfl rfl rfl ?_
 refine W1 ?_
 refine aQ (ι:=Nat) Tryz.checked.mixed rfl [0,1,5] (fun i=>[.c (.d (.sl (bs.map bA.enc))),.c (.d (.sl (vars.map encS))),.c (.d (.i .i64 i))]) (fun _=>[]::S)
  (fun i=>i≤bs.length∧(bs.drop i).all (kX vars)=bs.all (kX vars)) (fun i=>bs.length-i) 0 rfl rfl ⟨Nat.zero_le _,rfl⟩ ?_
 rintro i ⟨p1,p2⟩
 refine W1 ?_
 refine S0 (fun hb h=>?_) fun hb h=>?_
 ·have hi:i<bs.length:=by omega
  have hb:=hz _ (List.getElem_mem hi)
  have hs:=bA.sum bs[i]
  rw[List.drop_eq_getElem_cons hi,List.all_cons] at p2
  have no:kX vars bs[i]=false→V.c (.d (.b false))=V.c (.d (.b (mP vars bs))):=fun h=>ay (by unfold mP;rw[←p2,h];simp)
  refine W3 ?_
  refine C2 (Dl bs[i] (by omega) (by omega)) ?_
  refine S0 (fun hb h=>?_) fun hb h=>?_
  ·exact no (by unfold kX;rw[h];rfl)
  have h1:=h
  refine W3 ?_
  refine C2 (pQ bs[i].fType vars (by omega) hv) ?_
  refine S0 (fun hb h=>?_) fun hb h=>?_
  ·exact no (by unfold kX;rw[D5] at h;rw[Bool.and_eq_true] at h1;rw[h1.2,Bool.true_and] at h;rw[h];simp)
  have h2:=h
  refine W3 ?_
  refine C2 (zB bs[i].fType (by omega)) ?_
  refine S0 (fun hb h=>?_) fun hb h=>?_
  ·exact no (by unfold kX;rw[h];simp)
  have h3:=h
  rw[D5,Bool.and_eq_true] at h2
  exact bF (i+1) (by omega) rfl rfl ⟨by omega,by rw[←p2];unfold kX;rw[h1,h2.2,h3];rfl⟩
 ·rw[List.drop_of_length_le (by omega)] at p2
  exact ay (by unfold mP;rw[←p2,lU];simp only[List.all_nil,Bool.and_true];exact gN ⟨fun h=>by omega,fun h=>by omega⟩)
theorem KA(e:au)(hsz:e.sz≤4194304):aD Tryz.prog 326 [e.v] (.c (.d (.b (dec (e=zeroE))))):=fun S=>by
 refine aB (rs:=[.tmp 2]) Tryz.checked.mixed Tryz.func326 Tryz.ntmps326 rfl rfl rfl rfl rfl ?_
 refine W1 ?_
 exact C3 (EL e zeroE hsz)
theorem SA(e:au)(hsz:e.sz≤4194304):aD Tryz.prog 351 [e.v] (.c (.d (.b (dec (e=zeroE))))):=fun S=>by
 refine aB (rs:=[.tmp 2]) Tryz.checked.mixed Tryz.func351 Tryz.ntmps351 rfl rfl rfl rfl rfl ?_
 refine W1 ?_
 exact C3 (EM e zeroE hsz)
theorem IK(g:aS)(hsz:g.sz≤4194304):aD Tryz.prog 259 [g.v] (.c (.d (.b (gM g)))):=fun S=>by
 have hs:=aS.sum g
 have hT:∀t∈g.aZ,t.sz≤4194304:=fun t ht=>by have:=tu ht;omega
 have hV:∀s∈g.aF,s.length≤4194304:=fun s h=>by have:=nX h;omega
 refine aB (rs:=[.tmp 2]) Tryz.checked.mixed Tryz.func259 Tryz.ntmps259 rfl rfl rfl rfl rfl ?_
 refine W1 ?_
 refine C2 (fP g.fName (by omega)) ?_
 refine S0 (fun hb h=>?_) fun hb h=>?_
 ·exact ay (by unfold gM;rw[h];rfl)
 have h1:=h
 refine S0 (fun hb h=>?_) fun hb h=>?_
 ·exact ay (by unfold gM;rw[aC (show ¬g.aZ.length≤4 by omega)];simp)
 have h2:=h
 refine W3 ?_
 refine C1 (uf g.aZ Dh (by omega) hT (by decide)) ?_
 refine S0 (fun hb h=>?_) fun hb h=>?_
 ·exact ay (by unfold gM;rw[h];simp)
 have h3:=h
 refine W3 ?_
 refine C1 (qb g.bT Dh (by omega) (by decide)) ?_
 refine S0 (fun hb h=>?_) fun hb h=>?_
 ·exact ay (by unfold gM;rw[h];simp)
 have h4:=h
 refine S0 (fun hb h=>?_) fun hb h=>?_
 ·have h5:=h
  refine S0 (fun hb h=>?_) fun hb h=>?_
  ·have h6:=h
   refine C2 (Cy g.aF g.fBody (by omega) hV (by omega)) ?_
   exact ay (by unfold gM;rw[h1,h3,h4,if_pos h5,bq (show g.aZ.length≤4 by omega),bq (show g.aF.length=g.aZ.length+1 by omega)];rfl)
  ·exact ay (by unfold gM;rw[if_pos h5,aC (show ¬g.aF.length=g.aZ.length+1 by omega)];simp)
 ·have h5:¬g.ig=true:=by rw[h];simp
  refine S0 (fun hb h=>?_) fun hb h=>?_
  ·refine C2 (KA g.fBody (by omega)) ?_
   exact ay (by unfold gM;rw[h1,h3,h4,if_neg h5,bq (show g.aZ.length≤4 by omega),bq (show g.aF.length=0 by omega)];rfl)
  ·exact ay (by unfold gM;rw[if_neg h5,aC (show ¬g.aF.length=0 by omega)];simp)
theorem Vr(g:aS)(hsz:g.sz≤4194304):aD Tryz.prog 301 [g.v] (.c (.d (.b (gM g)))):=fun S=>by
 have hs:=aS.sum g
 have hT:∀t∈g.aZ,t.sz≤4194304:=fun t ht=>by have:=tu ht;omega
 have hV:∀s∈g.aF,s.length≤4194304:=fun s h=>by have:=nX h;omega
 refine aB (rs:=[.tmp 2]) Tryz.checked.mixed Tryz.func301 Tryz.ntmps301 rfl rfl rfl rfl rfl ?_
 refine W1 ?_
 refine C2 (fQ g.fName (by omega)) ?_
 refine S0 (fun hb h=>?_) fun hb h=>?_
 ·exact ay (by unfold gM;rw[h];rfl)
 have h1:=h
 refine S0 (fun hb h=>?_) fun hb h=>?_
 ·exact ay (by unfold gM;rw[aC (show ¬g.aZ.length≤4 by omega)];simp)
 have h2:=h
 refine W3 ?_
 refine C1 (JB g.aZ Dh (by omega) hT (by decide)) ?_
 refine S0 (fun hb h=>?_) fun hb h=>?_
 ·exact ay (by unfold gM;rw[h];simp)
 have h3:=h
 refine W3 ?_
 refine C1 (pQ g.bT Dh (by omega) (by decide)) ?_
 refine S0 (fun hb h=>?_) fun hb h=>?_
 ·exact ay (by unfold gM;rw[h];simp)
 have h4:=h
 refine S0 (fun hb h=>?_) fun hb h=>?_
 ·have h5:¬g.ig=true:=by rw[h];simp
  refine S0 (fun hb h=>?_) fun hb h=>?_
  ·refine C2 (SA g.fBody (by omega)) ?_
   exact ay (by unfold gM;rw[h1,h3,h4,if_neg h5,bq (show g.aZ.length≤4 by omega),bq (show g.aF.length=0 by omega)];rfl)
  ·exact ay (by unfold gM;rw[if_neg h5,aC (show ¬g.aF.length=0 by omega)];simp)
 ·have h5:=h
  refine C2 (jV g.aF 5 (by omega) hV) ?_
  refine S0 (fun hb h=>?_) fun hb h=>?_
  ·have h6:=h
   rw[Bool.and_eq_true] at h6
   refine S0 (fun hb h=>?_) fun hb h=>?_
   ·refine C2 (AU g.aF g.fBody (by omega) (by omega)) ?_
    exact ay (by unfold gM nJ;rw[h1,h3,h4,if_pos h5,h6.2,bq (show g.aZ.length≤4 by omega),bq (show g.aF.length=g.aZ.length+1 by omega)];rfl)
   ·exact ay (by unfold gM;rw[if_pos h5,aC (show ¬g.aF.length=g.aZ.length+1 by omega)];simp)
  ·refine ay ?_
   by_cases h7:g.aF.length=g.aZ.length+1
   ·rw[bq (by omega),Bool.true_and] at h
    unfold gM nJ;rw[if_pos h5,h];simp
   ·unfold gM;rw[if_pos h5,aC h7];simp
end Go.Proofs.YtcfhnaohbaplhaaGreatDoor
namespace Go.Proofs.YtcfhnaohbaplhaaGreatDoor
open Go Go.Ab
theorem O4(x:bB):∀left:Int,0≤left→left≤1048576→kP x.enc→aD Tryz.prog 299 [x.v,.c (.d (.i .i64 left))] (.c (.d (.i .i64 (cK left x.sz)))):=by
 intro left h0 h1 hf S
 simp only[bB.aH,List.cons_append,List.nil_append,iM,iK,iG,and_true] at hf
 obtain⟨fName,aF,fBody⟩:=hf
 have hz:x.sz=x.fName.length+((x.aF.length+aI (x.aF.map encS))+(x.fBody.sz)):=by
  simp only[bB.sz,bB.aH,bL,bf,D.sz,List.length_map,Nat.add_zero,Nat.zero_add,au.dn]<;>omega
 refine aB (rs:=[.tmp 4]) Tryz.checked.mixed Tryz.func299 Tryz.ntmps299 rfl rfl rfl rfl rfl ?_
 rw[hz]
 have wW:=pJ fName
 refine W1 ?_
 refine S0 (fun hb h=>?_) fun hb h=>?_
 ·exact int_eq (bV (by omega)).symm
 refine C1 (l8 x.aF _ (by omega) (by omega) aF) ?_
 refine S0 (fun hb h=>?_) fun hb h=>?_
 ·have h':=dB h
  exact int_eq (bV (by omega)).symm
 have hVars:=dP h
 simp only[hVars.1]
 refine C1 (BX x.fBody _ (by omega) (by omega) fBody) ?_
 refine S0 (fun hb h=>?_) fun hb h=>?_
 ·have h':=dB h
  exact int_eq (bV (by omega)).symm
 have Aw:=dP h
 simp only[Aw.1]
 refine int_eq ?_
 rw[fA (by omega)]
 omega
theorem Nv(xs:List bB):∀left:Int,0≤left→left≤1048576→(D.sl (xs.map bB.enc)).Fit→aD Tryz.prog 215 [.c (.d (.sl (xs.map bB.enc))),.c (.d (.i .i64 left))] (.c (.d (.i .i64 (cK left (xs.length+aI (xs.map bB.enc)))))):=by
 intro left h0 h1 hf S
 obtain⟨hf1,hf2⟩:=oM hf
 rw[List.length_map] at hf1
 refine aB (rs:=[.tmp 4]) Tryz.checked.mixed Tryz.func215 Tryz.ntmps215 rfl rfl rfl rfl rfl ?_
 refine W1 ?_
 refine S0 (fun hb h=>?_) fun hb h=>?_
 ·exact int_eq (bV (by omega)).symm
 refine aQ (ι:=Nat×Int) Tryz.checked.mixed rfl [0,1,5] (fun y=>[.c (.d (.sl (xs.map bB.enc))),.c (.d (.i .i64 y.2)),.c (.d (.i .i64 y.1))]) (fun _=>[]::S)
  (fun y=>y.1≤xs.length∧0≤y.2∧y.2≤1048576∧cK y.2 (aI ((xs.map bB.enc).drop y.1))=cK left (xs.length+aI (xs.map bB.enc))) (fun y=>xs.length-y.1) (0,left-xs.length) rfl rfl ⟨by omega,by omega,by omega,?_⟩ ?_
 ·unfold cK
  rw[List.drop_zero]
  split<;>split<;>omega
 rintro⟨i,l⟩ ⟨p1,p2,p3,p4⟩
 simp only at p1 p2 p3 p4
 refine W1 ?_
 refine S0 (fun hb h=>?_) fun hb h=>?_
 ·have hi:i<xs.length:=by omega
  rw[List.drop_eq_getElem_cons (by rw[List.length_map];exact hi),aI,List.getElem_map,bB.dn] at p4
  refine W3 ?_
  refine C1 (O4 xs[i] _ (by omega) (by omega) (hf2 _ (List.mem_map_of_mem (List.getElem_mem hi)))) ?_
  refine S0 (fun hb h=>?_) fun hb h=>?_
  ·have h':=dB h
   rw[←p4,bV (by omega)]
  ·have h':=dP h
   refine bF (i+1,cK l _) (by simp only;omega) rfl rfl ⟨by simp only;omega,by simp only;omega,by simp only;omega,?_⟩
   simp only
   rw[←p4,h'.1]
   unfold cK
   split<;>split<;>omega
 ·have hi:i=xs.length:=by omega
  rw[hi,List.drop_of_length_le (by simp),aI,fA (by omega)] at p4
  rw[←p4]
  refine int_eq ?_
  omega
theorem O5(x:bB):x.sz≤1048576→aD Tryz.prog 311 [x.v] x.v:=by
 intro hsz S
 simp only[bB.sz,bB.aH,bL,bf,D.sz,List.length_map,au.dn] at hsz
 refine aB (rs:=[.cell 2 265]) Tryz.checked.mixed Tryz.func311 Tryz.ntmps311 rfl rfl rfl rfl rfl ?_
 refine W1 ?_
 refine C1 (l9 x.aF (by omega)) ?_
 exact C3 (BZ x.fBody (by omega))
theorem Nw(xs:List bB):xs.length+aI (xs.map bB.enc)≤1048576→aD Tryz.prog 226 [.c (.d (.sl (xs.map bB.enc)))] (.c (.d (.sl (xs.map bB.enc)))):=by
 intro hsz S
 refine aB (rs:=[.tmp 2]) Tryz.checked.mixed Tryz.func226 Tryz.ntmps226 rfl rfl rfl rfl rfl ?_
 refine W1 ?_
 refine W3 ?_
 refine aQ (ι:=Nat×List (List D)) Tryz.checked.mixed rfl [0,3,4] (fun y=>[.c (.d (.sl (xs.map bB.enc))),.c (.ji (0,0)),.c (.d (.i .i64 y.1))]) (fun y=>[.eU 11 y.2]::S)
  (fun y=>y.1≤xs.length∧gq 11 y.1 y.2 (xs.map bB.enc)) (fun y=>xs.length-y.1) (0,_) rfl rfl ⟨Nat.zero_le _,gq.start (by simp) rfl⟩ ?_
 rintro⟨i,R⟩ ⟨p1,p2⟩
 simp only at p1 p2
 refine W1 ?_
 refine S0 (fun hb h=>?_) fun hb h=>?_
 ·have hi:i<xs.length:=by omega
  have hx:xs[i].sz≤aI (xs.map bB.enc):=bD (List.mem_map_of_mem (List.getElem_mem hi))
  refine W3 ?_
  refine C1 (O5 xs[i] (by omega)) ?_
  have hR:=p2.1
  rw[List.length_map] at hR
  refine W3 ?_
  refine bF (i+1,_) (by simp only;omega) rfl rfl ⟨by simp only;omega,p2.step (by simp[hi,au.aH,bB.aH,ah.aH]) rfl⟩
 ·have hi:i=xs.length:=by omega
  rw[p2.done (by rw[List.length_map];omega)]
theorem O6(x:bB):∀y:bB,x.sz≤1048576→aD Tryz.prog 316 [x.v,y.v] (.c (.d (.b (dec (x=y))))):=by
 intro y hsz S
 simp only[bB.sz,bB.aH,bL,bf,D.sz,List.length_map,au.dn] at hsz
 refine aB (rs:=[.tmp 4]) Tryz.checked.mixed Tryz.func316 Tryz.ntmps316 rfl rfl rfl rfl rfl ?_
 refine W1 ?_
 refine S0 (fun hb h=>?_) fun hb h=>?_
 ·exact ay (aC (fun e=>h (by rw[e]))).symm
 have mX:=h
 clear h
 refine C1 (mh x.aF _ (by omega)) ?_
 refine S0 (fun hb h=>?_) fun hb h=>?_
 ·exact ay (aC (fun e=>h (by rw[e]))).symm
 have uh:=h
 clear h
 refine C1 (Ca x.fBody _ (by omega)) ?_
 refine S0 (fun hb h=>?_) fun hb h=>?_
 ·exact ay (aC (fun e=>h (by rw[e]))).symm
 have Ay:=h
 clear h
 exact ay (bq (bB.ext' mX uh Ay)).symm
theorem Ny(xs:List bB):∀ys:List bB,xs.length+aI (xs.map bB.enc)≤1048576→aD Tryz.prog 233 [.c (.d (.sl (xs.map bB.enc))),.c (.d (.sl (ys.map bB.enc)))] (.c (.d (.b (dec (xs=ys))))):=by
 intro ys hsz S
 refine aB (rs:=[.tmp 4]) Tryz.checked.mixed Tryz.func233 Tryz.ntmps233 rfl rfl rfl rfl rfl ?_
 refine W1 ?_
 refine S0 (fun hb h=>?_) fun hb h=>?_
 ·exact ay (aC (fun e=>h (by rw[e]))).symm
 have hl:xs.length=ys.length:=by omega
 refine aQ (ι:=Nat) Tryz.checked.mixed rfl [0,1,5] (fun y=>[.c (.d (.sl (xs.map bB.enc))),.c (.d (.sl (ys.map bB.enc))),.c (.d (.i .i64 y))]) (fun y=>[]::S)
  (fun i=>i≤xs.length∧∀j,j<i→xs[j]? =ys[j]?) (fun y=>xs.length-y) 0 rfl rfl ⟨Nat.zero_le _,fun j h=>by omega⟩ ?_
 rintro i ⟨p1,p2⟩
 refine W1 ?_
 refine S0 (fun hb h=>?_) fun hb h=>?_
 ·have hi:i<xs.length:=by omega
  have hi':i<ys.length:=by omega
  have hx:xs[i].sz≤aI (xs.map bB.enc):=bD (List.mem_map_of_mem (List.getElem_mem hi))
  refine W3 ?_
  refine C1 (O6 xs[i] ys[i] (by omega)) ?_
  refine S0 (fun hb h=>?_) fun hb h=>?_
  ·exact ay (aC (fun e=>h (by simp only[e]))).symm
  refine bF (i+1) (by omega) rfl rfl ⟨by omega,fun j hj=> ?_⟩
  by_cases e:j=i
  ·subst e
   rw[List.getElem?_eq_getElem hi,List.getElem?_eq_getElem hi',h]
  ·exact p2 j (by omega)
 ·have hi:i=xs.length:=by omega
  refine ay (bq (List.ext_getElem? fun j=> ?_)).symm
  by_cases hj:j<i
  ·exact p2 j hj
  ·rw[List.getElem?_eq_none (by omega),List.getElem?_eq_none (by omega)]
end Go.Proofs.YtcfhnaohbaplhaaGreatDoor
namespace Go.Proofs.YtcfhnaohbaplhaaGreatDoor
open Go Go.Ab
theorem KC(x:aP):∀left:Int,0≤left→left≤1048576→kP x.enc→aD Tryz.prog 125 [x.v,.c (.d (.i .i64 left))] (.c (.d (.i .i64 (cK left x.sz)))):=by
 intro left h0 h1 hf S
 simp only[aP.aH,List.cons_append,List.nil_append,iM,iK,iG,and_true] at hf
 obtain⟨bI,aF,bU,bX,iR,fq,bQ,aL⟩:=hf
 have hz:x.sz=x.bI.length+((x.aF.length+aI (x.aF.map encS))+(x.bU.sz+((x.bX.length+aI (x.bX.map bA.enc))+(x.bQ.sz+((x.aL.length+aI (x.aL.map bB.enc))))))):=by
  simp only[aP.sz,aP.aH,bL,bf,D.sz,List.length_map,Nat.add_zero,Nat.zero_add,ah.dn]<;>omega
 refine aB (rs:=[.tmp 4]) Tryz.checked.mixed Tryz.func125 Tryz.ntmps125 rfl rfl rfl rfl rfl ?_
 rw[hz]
 have UZ:=pJ bI
 refine W1 ?_
 refine S0 (fun hb h=>?_) fun hb h=>?_
 ·exact int_eq (bV (by omega)).symm
 refine C1 (l8 x.aF _ (by omega) (by omega) aF) ?_
 refine S0 (fun hb h=>?_) fun hb h=>?_
 ·have h':=dB h
  exact int_eq (bV (by omega)).symm
 have hVars:=dP h
 simp only[hVars.1]
 refine C1 (qW x.bU _ (by omega) (by omega) bU) ?_
 refine S0 (fun hb h=>?_) fun hb h=>?_
 ·have h':=dB h
  exact int_eq (bV (by omega)).symm
 have hHead:=dP h
 simp only[hHead.1]
 refine C1 (DL x.bX _ (by omega) (by omega) bX) ?_
 refine S0 (fun hb h=>?_) fun hb h=>?_
 ·have h':=dB h
  exact int_eq (bV (by omega)).symm
 have Nz:=dP h
 simp only[Nz.1]
 refine C1 (qW x.bQ _ (by omega) (by omega) bQ) ?_
 refine S0 (fun hb h=>?_) fun hb h=>?_
 ·have h':=dB h
  exact int_eq (bV (by omega)).symm
 have abn:=dP h
 simp only[abn.1]
 refine C1 (Nv x.aL _ (by omega) (by omega) aL) ?_
 refine S0 (fun hb h=>?_) fun hb h=>?_
 ·have h':=dB h
  exact int_eq (bV (by omega)).symm
 have X0:=dP h
 simp only[X0.1]
 refine int_eq ?_
 rw[fA (by omega)]
 omega
theorem IL(xs:List aP):∀left:Int,0≤left→left≤1048576→(D.sl (xs.map aP.enc)).Fit→aD Tryz.prog 55 [.c (.d (.sl (xs.map aP.enc))),.c (.d (.i .i64 left))] (.c (.d (.i .i64 (cK left (xs.length+aI (xs.map aP.enc)))))):=by
 intro left h0 h1 hf S
 obtain⟨hf1,hf2⟩:=oM hf
 rw[List.length_map] at hf1
 refine aB (rs:=[.tmp 4]) Tryz.checked.mixed Tryz.func55 Tryz.ntmps55 rfl rfl rfl rfl rfl ?_
 refine W1 ?_
 refine S0 (fun hb h=>?_) fun hb h=>?_
 ·exact int_eq (bV (by omega)).symm
 refine aQ (ι:=Nat×Int) Tryz.checked.mixed rfl [0,1,5] (fun y=>[.c (.d (.sl (xs.map aP.enc))),.c (.d (.i .i64 y.2)),.c (.d (.i .i64 y.1))]) (fun _=>[]::S)
  (fun y=>y.1≤xs.length∧0≤y.2∧y.2≤1048576∧cK y.2 (aI ((xs.map aP.enc).drop y.1))=cK left (xs.length+aI (xs.map aP.enc))) (fun y=>xs.length-y.1) (0,left-xs.length) rfl rfl ⟨by omega,by omega,by omega,?_⟩ ?_
 ·unfold cK
  rw[List.drop_zero]
  split<;>split<;>omega
 rintro⟨i,l⟩ ⟨p1,p2,p3,p4⟩
 simp only at p1 p2 p3 p4
 refine W1 ?_
 refine S0 (fun hb h=>?_) fun hb h=>?_
 ·have hi:i<xs.length:=by omega
  rw[List.drop_eq_getElem_cons (by rw[List.length_map];exact hi),aI,List.getElem_map,aP.dn] at p4
  refine W3 ?_
  refine C1 (KC xs[i] _ (by omega) (by omega) (hf2 _ (List.mem_map_of_mem (List.getElem_mem hi)))) ?_
  refine S0 (fun hb h=>?_) fun hb h=>?_
  ·have h':=dB h
   rw[←p4,bV (by omega)]
  ·have h':=dP h
   refine bF (i+1,cK l _) (by simp only;omega) rfl rfl ⟨by simp only;omega,by simp only;omega,by simp only;omega,?_⟩
   simp only
   rw[←p4,h'.1]
   unfold cK
   split<;>split<;>omega
 ·have hi:i=xs.length:=by omega
  rw[hi,List.drop_of_length_le (by simp),aI,fA (by omega)] at p4
  rw[←p4]
  refine int_eq ?_
  omega
theorem KD(x:aP):x.sz≤1048576→aD Tryz.prog 137 [x.v] x.v:=by
 intro hsz S
 simp only[aP.sz,aP.aH,bL,bf,D.sz,List.length_map,ah.dn] at hsz
 refine aB (rs:=[.cell 2 193]) Tryz.checked.mixed Tryz.func137 Tryz.ntmps137 rfl rfl rfl rfl rfl ?_
 refine W1 ?_
 refine C1 (l9 x.aF (by omega)) ?_
 refine C1 (qX x.bU (by omega)) ?_
 refine C1 (DN x.bX (by omega)) ?_
 refine C1 (qX x.bQ (by omega)) ?_
 exact C3 (Nw x.aL (by omega))
theorem IQ(xs:List aP):xs.length+aI (xs.map aP.enc)≤1048576→aD Tryz.prog 61 [.c (.d (.sl (xs.map aP.enc)))] (.c (.d (.sl (xs.map aP.enc)))):=by
 intro hsz S
 refine aB (rs:=[.tmp 2]) Tryz.checked.mixed Tryz.func61 Tryz.ntmps61 rfl rfl rfl rfl rfl ?_
 refine W1 ?_
 refine W3 ?_
 refine aQ (ι:=Nat×List (List D)) Tryz.checked.mixed rfl [0,3,4] (fun y=>[.c (.d (.sl (xs.map aP.enc))),.c (.ji (0,0)),.c (.d (.i .i64 y.1))]) (fun y=>[.eU 12 y.2]::S)
  (fun y=>y.1≤xs.length∧gq 12 y.1 y.2 (xs.map aP.enc)) (fun y=>xs.length-y.1) (0,_) rfl rfl ⟨Nat.zero_le _,gq.start (by simp) rfl⟩ ?_
 rintro⟨i,R⟩ ⟨p1,p2⟩
 simp only at p1 p2
 refine W1 ?_
 refine S0 (fun hb h=>?_) fun hb h=>?_
 ·have hi:i<xs.length:=by omega
  have hx:xs[i].sz≤aI (xs.map aP.enc):=bD (List.mem_map_of_mem (List.getElem_mem hi))
  refine W3 ?_
  refine C1 (KD xs[i] (by omega)) ?_
  have hR:=p2.1
  rw[List.length_map] at hR
  refine W3 ?_
  refine bF (i+1,_) (by simp only;omega) rfl rfl ⟨by simp only;omega,p2.step (by simp[hi,aP.aH,ah.aH]) rfl⟩
 ·have hi:i=xs.length:=by omega
  rw[p2.done (by rw[List.length_map];omega)]
theorem KE(x:aP):∀y:aP,x.sz≤1048576→aD Tryz.prog 148 [x.v,y.v] (.c (.d (.b (dec (x=y))))):=by
 intro y hsz S
 simp only[aP.sz,aP.aH,bL,bf,D.sz,List.length_map,ah.dn] at hsz
 refine aB (rs:=[.tmp 4]) Tryz.checked.mixed Tryz.func148 Tryz.ntmps148 rfl rfl rfl rfl rfl ?_
 refine W1 ?_
 refine S0 (fun hb h=>?_) fun hb h=>?_
 ·exact ay (aC (fun e=>h (by rw[e]))).symm
 have BS:=h
 clear h
 refine C1 (mh x.aF _ (by omega)) ?_
 refine S0 (fun hb h=>?_) fun hb h=>?_
 ·exact ay (aC (fun e=>h (by rw[e]))).symm
 have uh:=h
 clear h
 refine C1 (qY x.bU _ (by omega)) ?_
 refine S0 (fun hb h=>?_) fun hb h=>?_
 ·exact ay (aC (fun e=>h (by rw[e]))).symm
 have adv:=h
 clear h
 refine C1 (DR x.bX _ (by omega)) ?_
 refine S0 (fun hb h=>?_) fun hb h=>?_
 ·exact ay (aC (fun e=>h (by rw[e]))).symm
 have NA:=h
 clear h
 refine S0 (fun hb h=>?_) fun hb h=>?_
 ·exact ay (aC (fun e=>h (by rw[e]))).symm
 have X3:=h
 clear h
 refine S0 (fun hb h=>?_) fun hb h=>?_
 ·exact ay (aC (fun e=>h (by rw[e]))).symm
 have Vs:=h
 clear h
 refine C1 (qY x.bQ _ (by omega)) ?_
 refine S0 (fun hb h=>?_) fun hb h=>?_
 ·exact ay (aC (fun e=>h (by rw[e]))).symm
 have Nj:=h
 clear h
 refine C1 (Ny x.aL _ (by omega)) ?_
 refine S0 (fun hb h=>?_) fun hb h=>?_
 ·exact ay (aC (fun e=>h (by rw[e]))).symm
 have X4:=h
 clear h
 exact ay (bq (aP.ext' BS uh adv NA X3 Vs Nj X4)).symm
theorem IU(xs:List aP):∀ys:List aP,xs.length+aI (xs.map aP.enc)≤1048576→aD Tryz.prog 67 [.c (.d (.sl (xs.map aP.enc))),.c (.d (.sl (ys.map aP.enc)))] (.c (.d (.b (dec (xs=ys))))):=by
 intro ys hsz S
 refine aB (rs:=[.tmp 4]) Tryz.checked.mixed Tryz.func67 Tryz.ntmps67 rfl rfl rfl rfl rfl ?_
 refine W1 ?_
 refine S0 (fun hb h=>?_) fun hb h=>?_
 ·exact ay (aC (fun e=>h (by rw[e]))).symm
 have hl:xs.length=ys.length:=by omega
 refine aQ (ι:=Nat) Tryz.checked.mixed rfl [0,1,5] (fun y=>[.c (.d (.sl (xs.map aP.enc))),.c (.d (.sl (ys.map aP.enc))),.c (.d (.i .i64 y))]) (fun y=>[]::S)
  (fun i=>i≤xs.length∧∀j,j<i→xs[j]? =ys[j]?) (fun y=>xs.length-y) 0 rfl rfl ⟨Nat.zero_le _,fun j h=>by omega⟩ ?_
 rintro i ⟨p1,p2⟩
 refine W1 ?_
 refine S0 (fun hb h=>?_) fun hb h=>?_
 ·have hi:i<xs.length:=by omega
  have hi':i<ys.length:=by omega
  have hx:xs[i].sz≤aI (xs.map aP.enc):=bD (List.mem_map_of_mem (List.getElem_mem hi))
  refine W3 ?_
  refine C1 (KE xs[i] ys[i] (by omega)) ?_
  refine S0 (fun hb h=>?_) fun hb h=>?_
  ·exact ay (aC (fun e=>h (by simp only[e]))).symm
  refine bF (i+1) (by omega) rfl rfl ⟨by omega,fun j hj=> ?_⟩
  by_cases e:j=i
  ·subst e
   rw[List.getElem?_eq_getElem hi,List.getElem?_eq_getElem hi',h]
  ·exact p2 j (by omega)
 ·have hi:i=xs.length:=by omega
  refine ay (bq (List.ext_getElem? fun j=> ?_)).symm
  by_cases hj:j<i
  ·exact p2 j hj
  ·rw[List.getElem?_eq_none (by omega),List.getElem?_eq_none (by omega)]
end Go.Proofs.YtcfhnaohbaplhaaGreatDoor
namespace Go.Proofs.YtcfhnaohbaplhaaGreatDoor
open Go Go.Ab
theorem SB(x:bG):∀left:Int,0≤left→left≤1048576→kP x.enc→aD Tryz.prog 300 [x.v,.c (.d (.i .i64 left))] (.c (.d (.i .i64 (cK left x.sz)))):=by
 intro left h0 h1 hf S
 simp only[bG.aH,List.cons_append,List.nil_append,iM,iK,iG,and_true] at hf
 obtain⟨fName,fType⟩:=hf
 have hz:x.sz=x.fName.length+(x.fType.sz):=by
  simp only[bG.sz,bG.aH,bL,bf,D.sz,List.length_map,Nat.add_zero,Nat.zero_add,ah.dn]<;>omega
 refine aB (rs:=[.tmp 4]) Tryz.checked.mixed Tryz.func300 Tryz.ntmps300 rfl rfl rfl rfl rfl ?_
 rw[hz]
 have wW:=pJ fName
 refine W1 ?_
 refine S0 (fun hb h=>?_) fun hb h=>?_
 ·exact int_eq (bV (by omega)).symm
 refine C1 (qW x.fType _ (by omega) (by omega) fType) ?_
 refine S0 (fun hb h=>?_) fun hb h=>?_
 ·have h':=dB h
  exact int_eq (bV (by omega)).symm
 have hType:=dP h
 simp only[hType.1]
 refine int_eq ?_
 rw[fA (by omega)]
 omega
theorem O7(xs:List bG):∀left:Int,0≤left→left≤1048576→(D.sl (xs.map bG.enc)).Fit→aD Tryz.prog 216 [.c (.d (.sl (xs.map bG.enc))),.c (.d (.i .i64 left))] (.c (.d (.i .i64 (cK left (xs.length+aI (xs.map bG.enc)))))):=by
 intro left h0 h1 hf S
 obtain⟨hf1,hf2⟩:=oM hf
 rw[List.length_map] at hf1
 refine aB (rs:=[.tmp 4]) Tryz.checked.mixed Tryz.func216 Tryz.ntmps216 rfl rfl rfl rfl rfl ?_
 refine W1 ?_
 refine S0 (fun hb h=>?_) fun hb h=>?_
 ·exact int_eq (bV (by omega)).symm
 refine aQ (ι:=Nat×Int) Tryz.checked.mixed rfl [0,1,5] (fun y=>[.c (.d (.sl (xs.map bG.enc))),.c (.d (.i .i64 y.2)),.c (.d (.i .i64 y.1))]) (fun _=>[]::S)
  (fun y=>y.1≤xs.length∧0≤y.2∧y.2≤1048576∧cK y.2 (aI ((xs.map bG.enc).drop y.1))=cK left (xs.length+aI (xs.map bG.enc))) (fun y=>xs.length-y.1) (0,left-xs.length) rfl rfl ⟨by omega,by omega,by omega,?_⟩ ?_
 ·unfold cK
  rw[List.drop_zero]
  split<;>split<;>omega
 rintro⟨i,l⟩ ⟨p1,p2,p3,p4⟩
 simp only at p1 p2 p3 p4
 refine W1 ?_
 refine S0 (fun hb h=>?_) fun hb h=>?_
 ·have hi:i<xs.length:=by omega
  rw[List.drop_eq_getElem_cons (by rw[List.length_map];exact hi),aI,List.getElem_map,bG.dn] at p4
  refine W3 ?_
  refine C1 (SB xs[i] _ (by omega) (by omega) (hf2 _ (List.mem_map_of_mem (List.getElem_mem hi)))) ?_
  refine S0 (fun hb h=>?_) fun hb h=>?_
  ·have h':=dB h
   rw[←p4,bV (by omega)]
  ·have h':=dP h
   refine bF (i+1,cK l _) (by simp only;omega) rfl rfl ⟨by simp only;omega,by simp only;omega,by simp only;omega,?_⟩
   simp only
   rw[←p4,h'.1]
   unfold cK
   split<;>split<;>omega
 ·have hi:i=xs.length:=by omega
  rw[hi,List.drop_of_length_le (by simp),aI,fA (by omega)] at p4
  rw[←p4]
  refine int_eq ?_
  omega
theorem SC(x:bG):x.sz≤1048576→aD Tryz.prog 312 [x.v] x.v:=by
 intro hsz S
 simp only[bG.sz,bG.aH,bL,bf,D.sz,List.length_map,ah.dn] at hsz
 refine aB (rs:=[.cell 2 267]) Tryz.checked.mixed Tryz.func312 Tryz.ntmps312 rfl rfl rfl rfl rfl ?_
 refine W1 ?_
 exact C3 (qX x.fType (by omega))
theorem O8(xs:List bG):xs.length+aI (xs.map bG.enc)≤1048576→aD Tryz.prog 227 [.c (.d (.sl (xs.map bG.enc)))] (.c (.d (.sl (xs.map bG.enc)))):=by
 intro hsz S
 refine aB (rs:=[.tmp 2]) Tryz.checked.mixed Tryz.func227 Tryz.ntmps227 rfl rfl rfl rfl rfl ?_
 refine W1 ?_
 refine W3 ?_
 refine aQ (ι:=Nat×List (List D)) Tryz.checked.mixed rfl [0,3,4] (fun y=>[.c (.d (.sl (xs.map bG.enc))),.c (.ji (0,0)),.c (.d (.i .i64 y.1))]) (fun y=>[.eU 4 y.2]::S)
  (fun y=>y.1≤xs.length∧gq 4 y.1 y.2 (xs.map bG.enc)) (fun y=>xs.length-y.1) (0,_) rfl rfl ⟨Nat.zero_le _,gq.start (by simp) rfl⟩ ?_
 rintro⟨i,R⟩ ⟨p1,p2⟩
 simp only at p1 p2
 refine W1 ?_
 refine S0 (fun hb h=>?_) fun hb h=>?_
 ·have hi:i<xs.length:=by omega
  have hx:xs[i].sz≤aI (xs.map bG.enc):=bD (List.mem_map_of_mem (List.getElem_mem hi))
  refine W3 ?_
  refine C1 (SC xs[i] (by omega)) ?_
  have hR:=p2.1
  rw[List.length_map] at hR
  refine W3 ?_
  refine bF (i+1,_) (by simp only;omega) rfl rfl ⟨by simp only;omega,p2.step (by simp[hi,bG.aH,ah.aH]) rfl⟩
 ·have hi:i=xs.length:=by omega
  rw[p2.done (by rw[List.length_map];omega)]
theorem SE(x:bG):∀y:bG,x.sz≤1048576→aD Tryz.prog 317 [x.v,y.v] (.c (.d (.b (dec (x=y))))):=by
 intro y hsz S
 simp only[bG.sz,bG.aH,bL,bf,D.sz,List.length_map,ah.dn] at hsz
 refine aB (rs:=[.tmp 4]) Tryz.checked.mixed Tryz.func317 Tryz.ntmps317 rfl rfl rfl rfl rfl ?_
 refine W1 ?_
 refine S0 (fun hb h=>?_) fun hb h=>?_
 ·exact ay (aC (fun e=>h (by rw[e]))).symm
 have mX:=h
 clear h
 refine C1 (qY x.fType _ (by omega)) ?_
 refine S0 (fun hb h=>?_) fun hb h=>?_
 ·exact ay (aC (fun e=>h (by rw[e]))).symm
 have eType:=h
 clear h
 exact ay (bq (bG.ext' mX eType)).symm
theorem O9(xs:List bG):∀ys:List bG,xs.length+aI (xs.map bG.enc)≤1048576→aD Tryz.prog 234 [.c (.d (.sl (xs.map bG.enc))),.c (.d (.sl (ys.map bG.enc)))] (.c (.d (.b (dec (xs=ys))))):=by
 intro ys hsz S
 refine aB (rs:=[.tmp 4]) Tryz.checked.mixed Tryz.func234 Tryz.ntmps234 rfl rfl rfl rfl rfl ?_
 refine W1 ?_
 refine S0 (fun hb h=>?_) fun hb h=>?_
 ·exact ay (aC (fun e=>h (by rw[e]))).symm
 have hl:xs.length=ys.length:=by omega
 refine aQ (ι:=Nat) Tryz.checked.mixed rfl [0,1,5] (fun y=>[.c (.d (.sl (xs.map bG.enc))),.c (.d (.sl (ys.map bG.enc))),.c (.d (.i .i64 y))]) (fun y=>[]::S)
  (fun i=>i≤xs.length∧∀j,j<i→xs[j]? =ys[j]?) (fun y=>xs.length-y) 0 rfl rfl ⟨Nat.zero_le _,fun j h=>by omega⟩ ?_
 rintro i ⟨p1,p2⟩
 refine W1 ?_
 refine S0 (fun hb h=>?_) fun hb h=>?_
 ·have hi:i<xs.length:=by omega
  have hi':i<ys.length:=by omega
  have hx:xs[i].sz≤aI (xs.map bG.enc):=bD (List.mem_map_of_mem (List.getElem_mem hi))
  refine W3 ?_
  refine C1 (SE xs[i] ys[i] (by omega)) ?_
  refine S0 (fun hb h=>?_) fun hb h=>?_
  ·exact ay (aC (fun e=>h (by simp only[e]))).symm
  refine bF (i+1) (by omega) rfl rfl ⟨by omega,fun j hj=> ?_⟩
  by_cases e:j=i
  ·subst e
   rw[List.getElem?_eq_getElem hi,List.getElem?_eq_getElem hi',h]
  ·exact p2 j (by omega)
 ·have hi:i=xs.length:=by omega
  refine ay (bq (List.ext_getElem? fun j=> ?_)).symm
  by_cases hj:j<i
  ·exact p2 j hj
  ·rw[List.getElem?_eq_none (by omega),List.getElem?_eq_none (by omega)]
end Go.Proofs.YtcfhnaohbaplhaaGreatDoor
namespace Go.Proofs.YtcfhnaohbaplhaaGreatDoor
open Go Go.Ab
theorem KF(x:aR):∀left:Int,0≤left→left≤1048576→kP x.enc→aD Tryz.prog 126 [x.v,.c (.d (.i .i64 left))] (.c (.d (.i .i64 (cK left x.sz)))):=by
 intro left h0 h1 hf S
 simp only[aR.aH,List.cons_append,List.nil_append,iM,iK,iG,and_true] at hf
 obtain⟨fName,aF,bX,aZ,bT,fBody⟩:=hf
 have hz:x.sz=x.fName.length+((x.aF.length+aI (x.aF.map encS))+((x.bX.length+aI (x.bX.map bA.enc))+((x.aZ.length+aI (x.aZ.map bG.enc))+(x.bT.sz+(x.fBody.sz))))):=by
  simp only[aR.sz,aR.aH,bL,bf,D.sz,List.length_map,Nat.add_zero,Nat.zero_add,au.dn,ah.dn]<;>omega
 refine aB (rs:=[.tmp 4]) Tryz.checked.mixed Tryz.func126 Tryz.ntmps126 rfl rfl rfl rfl rfl ?_
 rw[hz]
 have wW:=pJ fName
 refine W1 ?_
 refine S0 (fun hb h=>?_) fun hb h=>?_
 ·exact int_eq (bV (by omega)).symm
 refine C1 (l8 x.aF _ (by omega) (by omega) aF) ?_
 refine S0 (fun hb h=>?_) fun hb h=>?_
 ·have h':=dB h
  exact int_eq (bV (by omega)).symm
 have hVars:=dP h
 simp only[hVars.1]
 refine C1 (DL x.bX _ (by omega) (by omega) bX) ?_
 refine S0 (fun hb h=>?_) fun hb h=>?_
 ·have h':=dB h
  exact int_eq (bV (by omega)).symm
 have Nz:=dP h
 simp only[Nz.1]
 refine C1 (O7 x.aZ _ (by omega) (by omega) aZ) ?_
 refine S0 (fun hb h=>?_) fun hb h=>?_
 ·have h':=dB h
  exact int_eq (bV (by omega)).symm
 have Ir:=dP h
 simp only[Ir.1]
 refine C1 (qW x.bT _ (by omega) (by omega) bT) ?_
 refine S0 (fun hb h=>?_) fun hb h=>?_
 ·have h':=dB h
  exact int_eq (bV (by omega)).symm
 have Iu:=dP h
 simp only[Iu.1]
 refine C1 (BX x.fBody _ (by omega) (by omega) fBody) ?_
 refine S0 (fun hb h=>?_) fun hb h=>?_
 ·have h':=dB h
  exact int_eq (bV (by omega)).symm
 have Aw:=dP h
 simp only[Aw.1]
 refine int_eq ?_
 rw[fA (by omega)]
 omega
theorem IV(xs:List aR):∀left:Int,0≤left→left≤1048576→(D.sl (xs.map aR.enc)).Fit→aD Tryz.prog 56 [.c (.d (.sl (xs.map aR.enc))),.c (.d (.i .i64 left))] (.c (.d (.i .i64 (cK left (xs.length+aI (xs.map aR.enc)))))):=by
 intro left h0 h1 hf S
 obtain⟨hf1,hf2⟩:=oM hf
 rw[List.length_map] at hf1
 refine aB (rs:=[.tmp 4]) Tryz.checked.mixed Tryz.func56 Tryz.ntmps56 rfl rfl rfl rfl rfl ?_
 refine W1 ?_
 refine S0 (fun hb h=>?_) fun hb h=>?_
 ·exact int_eq (bV (by omega)).symm
 refine aQ (ι:=Nat×Int) Tryz.checked.mixed rfl [0,1,5] (fun y=>[.c (.d (.sl (xs.map aR.enc))),.c (.d (.i .i64 y.2)),.c (.d (.i .i64 y.1))]) (fun _=>[]::S)
  (fun y=>y.1≤xs.length∧0≤y.2∧y.2≤1048576∧cK y.2 (aI ((xs.map aR.enc).drop y.1))=cK left (xs.length+aI (xs.map aR.enc))) (fun y=>xs.length-y.1) (0,left-xs.length) rfl rfl ⟨by omega,by omega,by omega,?_⟩ ?_
 ·unfold cK
  rw[List.drop_zero]
  split<;>split<;>omega
 rintro⟨i,l⟩ ⟨p1,p2,p3,p4⟩
 simp only at p1 p2 p3 p4
 refine W1 ?_
 refine S0 (fun hb h=>?_) fun hb h=>?_
 ·have hi:i<xs.length:=by omega
  rw[List.drop_eq_getElem_cons (by rw[List.length_map];exact hi),aI,List.getElem_map,aR.dn] at p4
  refine W3 ?_
  refine C1 (KF xs[i] _ (by omega) (by omega) (hf2 _ (List.mem_map_of_mem (List.getElem_mem hi)))) ?_
  refine S0 (fun hb h=>?_) fun hb h=>?_
  ·have h':=dB h
   rw[←p4,bV (by omega)]
  ·have h':=dP h
   refine bF (i+1,cK l _) (by simp only;omega) rfl rfl ⟨by simp only;omega,by simp only;omega,by simp only;omega,?_⟩
   simp only
   rw[←p4,h'.1]
   unfold cK
   split<;>split<;>omega
 ·have hi:i=xs.length:=by omega
  rw[hi,List.drop_of_length_le (by simp),aI,fA (by omega)] at p4
  rw[←p4]
  refine int_eq ?_
  omega
theorem KG(x:aR):x.sz≤1048576→aD Tryz.prog 138 [x.v] x.v:=by
 intro hsz S
 simp only[aR.sz,aR.aH,bL,bf,D.sz,List.length_map,au.dn,ah.dn] at hsz
 refine aB (rs:=[.cell 2 197]) Tryz.checked.mixed Tryz.func138 Tryz.ntmps138 rfl rfl rfl rfl rfl ?_
 refine W1 ?_
 refine C1 (l9 x.aF (by omega)) ?_
 refine C1 (DN x.bX (by omega)) ?_
 refine C1 (O8 x.aZ (by omega)) ?_
 refine C1 (qX x.bT (by omega)) ?_
 exact C3 (BZ x.fBody (by omega))
theorem IW(xs:List aR):xs.length+aI (xs.map aR.enc)≤1048576→aD Tryz.prog 62 [.c (.d (.sl (xs.map aR.enc)))] (.c (.d (.sl (xs.map aR.enc)))):=by
 intro hsz S
 refine aB (rs:=[.tmp 2]) Tryz.checked.mixed Tryz.func62 Tryz.ntmps62 rfl rfl rfl rfl rfl ?_
 refine W1 ?_
 refine W3 ?_
 refine aQ (ι:=Nat×List (List D)) Tryz.checked.mixed rfl [0,3,4] (fun y=>[.c (.d (.sl (xs.map aR.enc))),.c (.ji (0,0)),.c (.d (.i .i64 y.1))]) (fun y=>[.eU 16 y.2]::S)
  (fun y=>y.1≤xs.length∧gq 16 y.1 y.2 (xs.map aR.enc)) (fun y=>xs.length-y.1) (0,_) rfl rfl ⟨Nat.zero_le _,gq.start (by simp) rfl⟩ ?_
 rintro⟨i,R⟩ ⟨p1,p2⟩
 simp only at p1 p2
 refine W1 ?_
 refine S0 (fun hb h=>?_) fun hb h=>?_
 ·have hi:i<xs.length:=by omega
  have hx:xs[i].sz≤aI (xs.map aR.enc):=bD (List.mem_map_of_mem (List.getElem_mem hi))
  refine W3 ?_
  refine C1 (KG xs[i] (by omega)) ?_
  have hR:=p2.1
  rw[List.length_map] at hR
  refine W3 ?_
  refine bF (i+1,_) (by simp only;omega) rfl rfl ⟨by simp only;omega,p2.step (by simp[hi,au.aH,aR.aH,ah.aH]) rfl⟩
 ·have hi:i=xs.length:=by omega
  rw[p2.done (by rw[List.length_map];omega)]
theorem KH(x:aR):∀y:aR,x.sz≤1048576→aD Tryz.prog 149 [x.v,y.v] (.c (.d (.b (dec (x=y))))):=by
 intro y hsz S
 simp only[aR.sz,aR.aH,bL,bf,D.sz,List.length_map,au.dn,ah.dn] at hsz
 refine aB (rs:=[.tmp 4]) Tryz.checked.mixed Tryz.func149 Tryz.ntmps149 rfl rfl rfl rfl rfl ?_
 refine W1 ?_
 refine S0 (fun hb h=>?_) fun hb h=>?_
 ·exact ay (aC (fun e=>h (by rw[e]))).symm
 have mX:=h
 clear h
 refine C1 (mh x.aF _ (by omega)) ?_
 refine S0 (fun hb h=>?_) fun hb h=>?_
 ·exact ay (aC (fun e=>h (by rw[e]))).symm
 have uh:=h
 clear h
 refine C1 (DR x.bX _ (by omega)) ?_
 refine S0 (fun hb h=>?_) fun hb h=>?_
 ·exact ay (aC (fun e=>h (by rw[e]))).symm
 have NA:=h
 clear h
 refine C1 (O9 x.aZ _ (by omega)) ?_
 refine S0 (fun hb h=>?_) fun hb h=>?_
 ·exact ay (aC (fun e=>h (by rw[e]))).symm
 have Iz:=h
 clear h
 refine C1 (qY x.bT _ (by omega)) ?_
 refine S0 (fun hb h=>?_) fun hb h=>?_
 ·exact ay (aC (fun e=>h (by rw[e]))).symm
 have IB:=h
 clear h
 refine C1 (Ca x.fBody _ (by omega)) ?_
 refine S0 (fun hb h=>?_) fun hb h=>?_
 ·exact ay (aC (fun e=>h (by rw[e]))).symm
 have Ay:=h
 clear h
 exact ay (bq (aR.ext' mX uh NA Iz IB Ay)).symm
theorem IX(xs:List aR):∀ys:List aR,xs.length+aI (xs.map aR.enc)≤1048576→aD Tryz.prog 68 [.c (.d (.sl (xs.map aR.enc))),.c (.d (.sl (ys.map aR.enc)))] (.c (.d (.b (dec (xs=ys))))):=by
 intro ys hsz S
 refine aB (rs:=[.tmp 4]) Tryz.checked.mixed Tryz.func68 Tryz.ntmps68 rfl rfl rfl rfl rfl ?_
 refine W1 ?_
 refine S0 (fun hb h=>?_) fun hb h=>?_
 ·exact ay (aC (fun e=>h (by rw[e]))).symm
 have hl:xs.length=ys.length:=by omega
 refine aQ (ι:=Nat) Tryz.checked.mixed rfl [0,1,5] (fun y=>[.c (.d (.sl (xs.map aR.enc))),.c (.d (.sl (ys.map aR.enc))),.c (.d (.i .i64 y))]) (fun y=>[]::S)
  (fun i=>i≤xs.length∧∀j,j<i→xs[j]? =ys[j]?) (fun y=>xs.length-y) 0 rfl rfl ⟨Nat.zero_le _,fun j h=>by omega⟩ ?_
 rintro i ⟨p1,p2⟩
 refine W1 ?_
 refine S0 (fun hb h=>?_) fun hb h=>?_
 ·have hi:i<xs.length:=by omega
  have hi':i<ys.length:=by omega
  have hx:xs[i].sz≤aI (xs.map aR.enc):=bD (List.mem_map_of_mem (List.getElem_mem hi))
  refine W3 ?_
  refine C1 (KH xs[i] ys[i] (by omega)) ?_
  refine S0 (fun hb h=>?_) fun hb h=>?_
  ·exact ay (aC (fun e=>h (by simp only[e]))).symm
  refine bF (i+1) (by omega) rfl rfl ⟨by omega,fun j hj=> ?_⟩
  by_cases e:j=i
  ·subst e
   rw[List.getElem?_eq_getElem hi,List.getElem?_eq_getElem hi',h]
  ·exact p2 j (by omega)
 ·have hi:i=xs.length:=by omega
  refine ay (bq (List.ext_getElem? fun j=> ?_)).symm
  by_cases hj:j<i
  ·exact p2 j hj
  ·rw[List.getElem?_eq_none (by omega),List.getElem?_eq_none (by omega)]
end Go.Proofs.YtcfhnaohbaplhaaGreatDoor
namespace Go.Ab
def oU(f:aR):List (List UInt8):=f.aZ.map bG.fName
def GY(f:aR):List ah:=f.aZ.map bG.fType
noncomputable def jD(f:aR):Bool:=
 validName f.fName&&(dec (f.aF.length≤3)&&(gP f.aF&&(mP f.aF f.bX&&(dec (f.aZ.length≤5)&&(jM f.aF (GY f)&&(fE f.aF f.bT&&nJ (oU f) f.fBody))))))
theorem aR.sum(x:aR):x.fName.length+(x.aF.length+aI (x.aF.map encS))+(x.bX.length+aI (x.bX.map bA.enc))+(x.aZ.length+aI (x.aZ.map bG.enc))+x.bT.sz+x.fBody.sz≤x.sz:=by
 simp only[aR.sz,aR.aH,bL,bf,D.sz,List.length_map,ah.dn,au.dn]
 omega
theorem bG.sum(x:bG):x.fName.length+x.fType.sz≤x.sz:=by
 simp only[bG.sz,bG.aH,bL,bf,D.sz,List.length_map,ah.dn]
 omega
theorem Di{xs:List bG}{t:bG}(h:t∈xs):t.sz≤aI (xs.map bG.enc):=bD (List.mem_map_of_mem h)
end Go.Ab
namespace Go.Proofs.YtcfhnaohbaplhaaGreatDoor
open Go Go.Ab
theorem KI(ps:List bG)(hl:ps.length≤1073741823):aD Tryz.prog 269 [.c (.d (.sl (ps.map bG.enc)))] (.c (.d (.sl ((ps.map bG.fName).map encS)))):=fun S=>by
 refine aB (rs:=[.tmp 2]) Tryz.checked.mixed Tryz.func269 Tryz.ntmps269 rfl rfl rfl rfl rfl ?_
 refine W1 ?_
 refine W3 ?_
 refine nD 3 1 [] rfl (by simp) ?_
 refine aQ (ι:=Nat×List (List UInt8)) Tryz.checked.mixed rfl [3,7,8,9] (fun y=>[.c (.bH (0,0) (y.2.map encS)),.c (.d (.sl (ps.map bG.enc))),.c (.d (.i .i64 ps.length)),.c (.d (.i .i64 y.1))]) (fun y=>[.tok 1 (y.2.map encS)]::S)
  (fun y=>y.1≤ps.length∧y.2=(ps.map bG.fName).take y.1) (fun y=>ps.length-y.1) (0,[]) rfl rfl ⟨Nat.zero_le _,rfl⟩ ?_
 rintro⟨i,names⟩ ⟨p1,p2⟩
 simp only at p1 p2
 have pl:names.length≤ps.length:=by rw[p2];simp;omega
 refine W1 ?_
 refine S0 (fun hb h=>?_) fun hb h=>?_
 ·have hi:i<ps.length:=by omega
  refine W3 ?_
  rw[show List.map encS names++[[D.s ps[i].fName]]=List.map encS (names++[ps[i].fName]) by simp[encS]]
  exact cu 1 (by decide) (i+1,names++[ps[i].fName]) (by simp only;omega) rfl rfl rfl rfl ⟨by simp only;omega,by simp only;rw[p2,gG (by simpa using hi)];simp⟩
 ·rw[List.take_of_length_le (by simp;omega)] at p2
  rw[p2]
theorem KJ(ps:List bG)(hl:ps.length≤1073741823):aD Tryz.prog 268 [.c (.d (.sl (ps.map bG.enc)))] (.c (.d (.sl ((ps.map bG.fType).map ah.enc)))):=fun S=>by
 refine aB (rs:=[.tmp 2]) Tryz.checked.mixed Tryz.func268 Tryz.ntmps268 rfl rfl rfl rfl rfl ?_
 refine W1 ?_
 refine W3 ?_
 refine nD 3 3 [] rfl (by simp) ?_
 refine aQ (ι:=Nat×List ah) Tryz.checked.mixed rfl [3,7,8,9] (fun y=>[.c (.bH (0,0) (y.2.map ah.enc)),.c (.d (.sl (ps.map bG.enc))),.c (.d (.i .i64 ps.length)),.c (.d (.i .i64 y.1))]) (fun y=>[.tok 3 (y.2.map ah.enc)]::S)
  (fun y=>y.1≤ps.length∧y.2=(ps.map bG.fType).take y.1) (fun y=>ps.length-y.1) (0,[]) rfl rfl ⟨Nat.zero_le _,rfl⟩ ?_
 rintro⟨i,names⟩ ⟨p1,p2⟩
 simp only at p1 p2
 have pl:names.length≤ps.length:=by rw[p2];simp;omega
 refine W1 ?_
 refine S0 (fun hb h=>?_) fun hb h=>?_
 ·have hi:i<ps.length:=by omega
  refine W3 ?_
  rw[show List.map ah.enc names++[[D.i .i64 ps[i].fType.aU,D.s ps[i].fType.fName,D.sl (ps[i].fType.fArgs.map ah.enc)]]=List.map ah.enc (names++[ps[i].fType]) by simp[ah.aH]]
  exact cu 1 (by decide) (i+1,names++[ps[i].fType]) (by simp only;omega) rfl rfl rfl rfl ⟨by simp only;omega,by simp only;rw[p2,gG (by simpa using hi)];simp⟩
 ·rw[List.take_of_length_le (by simp;omega)] at p2
  rw[p2]
theorem IY(f:aR)(hsz:f.sz≤4194304):aD Tryz.prog 175 [f.v] (.c (.d (.b (jD f)))):=fun S=>by
 have hs:=aR.sum f
 have hV:∀s∈f.aF,s.length≤4194304:=fun s h=>by have:=nX h;omega
 have hW:∀b∈f.bX,b.sz≤4194304:=fun b h=>by have:=mJ h;omega
 have hP:∀p∈f.aZ,p.sz≤4194304:=fun m h=>by have:=Di h;omega
 have hpt:∀t∈f.aZ.map bG.fType,t.sz≤4194304:=fun t h=>by
  obtain⟨p,hp,e⟩:=List.mem_map.1 h
  have:=hP p hp
  have:=bG.sum p
  rw[←e];omega
 have hpn:∀s∈f.aZ.map bG.fName,s.length≤4194304:=fun t h=>by
  obtain⟨p,hp,e⟩:=List.mem_map.1 h
  have:=hP p hp
  have:=bG.sum p
  rw[←e];omega
 have hpl:(f.aZ.map bG.fName).length=f.aZ.length:=by simp
 have hpl':(f.aZ.map bG.fType).length=f.aZ.length:=by simp
 refine aB (rs:=[.tmp 2]) Tryz.checked.mixed Tryz.func175 Tryz.ntmps175 rfl rfl rfl rfl rfl ?_
 refine W1 ?_
 repeat' (first
  |refine S0 (fun hb h=>?_) fun hb h=>?_
  |((with_reducible show dW _ _ 168 _ _ _ _);refine bN (fP f.fName (by omega)) ?_;refine W1 ?_)
  |((with_reducible show dW _ _ 169 _ _ _ _);refine bN (lV f.aF (by omega) hV) ?_;refine W1 ?_)
  |((with_reducible show dW _ _ 265 _ _ _ _);refine bN (Cz f.bX f.aF (by omega) hW (by omega)) ?_;refine W1 ?_)
  |((with_reducible show dW _ _ 268 _ _ _ _);refine bN (KJ f.aZ (by omega)) ?_;refine W1 ?_)
  |((with_reducible show dW _ _ 260 _ _ _ _);refine bN (uf (f.aZ.map bG.fType) f.aF (by omega) hpt (by omega)) ?_;refine W1 ?_)
  |((with_reducible show dW _ _ 261 _ _ _ _);refine bN (qb f.bT f.aF (by omega) (by omega)) ?_;refine W1 ?_)
  |((with_reducible show dW _ _ 269 _ _ _ _);refine bN (KI f.aZ (by omega)) ?_;refine W1 ?_)
  |((with_reducible show dW _ _ 267 _ _ _ _);refine bN (Cy (f.aZ.map bG.fName) f.fBody (by omega) hpn (by omega)) ?_;refine W1 ?_)
  |(refine ay ?_;unfold jD GY oU;grind [iN,iH,bq,aC]))
theorem u7(f:aR)(hsz:f.sz≤4194304):aD Tryz.prog 222 [f.v] (.c (.d (.b (jD f)))):=fun S=>by
 have hs:=aR.sum f
 have hV:∀s∈f.aF,s.length≤4194304:=fun s h=>by have:=nX h;omega
 have hW:∀b∈f.bX,b.sz≤4194304:=fun b h=>by have:=mJ h;omega
 have hP:∀p∈f.aZ,p.sz≤4194304:=fun m h=>by have:=Di h;omega
 have hpn:∀s∈oU f,s.length≤4194304:=fun t h=>by
  obtain⟨p,hp,e⟩:=List.mem_map.1 h
  have:=hP p hp
  have:=bG.sum p
  rw[←e];omega
 have hnl:(oU f).length=f.aZ.length:=by simp[oU]
 have bad:∀i,∀hi:i<f.aZ.length,fE f.aF f.aZ[i].fType=false→V.c (.d (.b false))=V.c (.d (.b (jD f))):=fun i hi h=>ay (by
  have:jM f.aF (GY f)=false:=Bool.eq_false_iff.2 fun hx=>by
   have:=List.all_eq_true.1 hx f.aZ[i].fType (List.mem_map_of_mem (List.getElem_mem hi))
   rw[h] at this;cases this
  unfold jD
  rw[this];simp)
 refine aB (rs:=[.tmp 2]) Tryz.checked.mixed Tryz.func222 Tryz.ntmps222 rfl rfl rfl rfl rfl ?_
 refine W1 ?_
 refine W3 ?_
 refine nD 3 1 [] rfl (by simp) ?_
 refine aQ (ι:=Nat×List (List UInt8)) Tryz.checked.mixed rfl [1,3,4] (fun y=>[.c (.ptr (0,0) 0),.c (.bH (0,1) (y.2.map encS)),.c (.d (.i .i64 y.1))]) (fun y=>[.box (f.enc.map .d),.tok 1 (y.2.map encS)]::S)
  (fun y=>y.1≤f.aZ.length∧y.2=(oU f).take y.1∧∀j,∀hj:j<f.aZ.length,j<y.1→fE f.aF f.aZ[j].fType=true) (fun y=>f.aZ.length-y.1) (0,[]) rfl ?_ ⟨Nat.zero_le _,rfl,fun j _ h=>by simp only at h;omega⟩ ?_
 ·exact Z1
 rintro⟨i,names⟩ ⟨p1,p2,p3⟩
 simp only at p1 p2 p3
 have pl:names.length≤f.aZ.length:=by rw[p2];simp[oU];omega
 refine W1 ?_
 refine S0 (fun hb h=>?_) fun hb h=>?_
 ·have hi:i<f.aZ.length:=by omega
  have hp:=hP _ (List.getElem_mem hi)
  have hps:=bG.sum f.aZ[i]
  refine W3 ?_
  refine C2 (pQ f.aZ[i].fType f.aF (by omega) (by omega)) ?_
  refine S0 (fun hb h=>?_) fun hb h=>?_
  ·exact bad i hi h
  have k3:=h
  refine W3 ?_
  rw[show List.map encS names++[[D.s f.aZ[i].fName]]=List.map encS (names++[f.aZ[i].fName]) by simp[encS]]
  exact bF (i+1,names++[f.aZ[i].fName]) (by simp only;omega) rfl rfl ⟨by simp only;omega,by simp only;rw[p2,gG (by simpa [oU] using hi)];simp[oU],fun j hj hji=>by
   simp only at hji
   by_cases e:j=i
   ·subst e;exact k3
   ·exact p3 j hj (by omega)⟩
 have hi:i=f.aZ.length:=by omega
 have hn:names=oU f:=by rw[p2,List.take_of_length_le (by simp[oU];omega)]
 have hall:jM f.aF (GY f)=true:=List.all_eq_true.2 fun c hc=>by
  obtain⟨p,hp,e⟩:=List.mem_map.1 hc
  obtain⟨j,hj,e'⟩:=List.getElem_of_mem hp
  rw[←e,←e'];exact p3 j hj (by omega)
 clear p2 p3 bad
 subst hn
 repeat' (first
  |refine S0 (fun hb h=>?_) fun hb h=>?_
  |((with_reducible show dW _ _ 159 _ _ _ _);refine bN (fQ f.fName (by omega)) ?_;refine W1 ?_)
  |((with_reducible show dW _ _ 160 _ _ _ _);refine bN (jV f.aF 3 (by omega) hV) ?_;refine W1 ?_)
  |((with_reducible show dW _ _ 305 _ _ _ _);refine bN (D6 f.bX f.aF (by omega) hW (by omega)) ?_;refine W1 ?_)
  |((with_reducible show dW _ _ 160 _ _ _ _);refine bN (jV (oU f) 5 (by omega) hpn) ?_;refine W1 ?_)
  |((with_reducible show dW _ _ 303 _ _ _ _);refine bN (pQ f.bT f.aF (by omega) (by omega)) ?_;refine W1 ?_)
  |((with_reducible show dW _ _ 307 _ _ _ _);refine bN (AU (oU f) f.fBody (by omega) (by omega)) ?_;refine W1 ?_)
  |(refine ay ?_;unfold jD nJ;grind [iN,iH,bq,aC]))
end Go.Proofs.YtcfhnaohbaplhaaGreatDoor
namespace Go.Ab
def yw(n:Nat)(s:St):St:=match s.st with
 |(.seed _::own)::Ω=>⟨s.tm,(.seed n::own)::Ω⟩
 |_=>s
theorem zM{N:Nat}(n:Nat)(s:St):gI N s (yw n s):=by
 obtain⟨tm,st⟩:=s
 unfold yw
 split
 ·rename_i h;simp only at h;subst h;exact xM n
 ·exact gI.refl _ _
theorem Pb{n m:Nat}{tm:List (Nat×V)}{own:List Obj}{Ω:Store}:yw n ⟨tm,(.seed m::own)::Ω⟩=⟨tm,(.seed n::own)::Ω⟩:=rfl
def YK(j p n:Nat)(s:St):St:=yw n (KT j p s)
theorem ze{N:Nat}(j p n:Nat)(s:St):gI N s (YK j p n s):=(DW j p s).trans (zM n _)
attribute [go_sem] YK Pb
def YL:List UInt8:=[102,110]
def nM(b:bA):aj:=bR [bO b.bI,cB b.fType]
def oK(b:bG):aj:=bR [bO b.fName,cB b.fType]
def zN(f:aR):aj:=bR [bO YL,bO f.fName,bR (aT f.aF),bR (f.bX.map nM),bR (f.aZ.map oK),cB f.bT,eG f.fBody]
noncomputable def AV(f:aR):aj:=qV (jD f) (zN f)
theorem abo(b:bA):(nM b).sz≤14+16*b.sz:=by
 have:=vW b.fType
 have:=bA.sum b
 rw[nM,iI];simp[fu,iQ];omega
theorem X5(b:bG):(oK b).sz≤14+16*b.sz:=by
 have:=vW b.fType
 have:=bG.sum b
 rw[oK,iI];simp[fu,iQ];omega
theorem IZ:∀l:List bA,fu (l.map nM)≤14*l.length+16*aI (l.map bA.enc)
 |[]=>by simp[fu]
 |c::l=>by
  have h1:=abo c
  have h2:=IZ l
  rw[List.map_cons,fu,List.map_cons,aI,List.length_cons];simp only[bA.sz] at h1;omega
theorem JU:∀l:List bG,fu (l.map oK)≤14*l.length+16*aI (l.map bG.enc)
 |[]=>by simp[fu]
 |c::l=>by
  have h1:=X5 c
  have h2:=JU l
  rw[List.map_cons,fu,List.map_cons,aI,List.length_cons];simp only[bG.sz] at h1;omega
theorem Vt{f:aR}(hok:gV f.fBody=true):(zN f).sz≤60+32*f.sz:=by
 have h1:=IZ f.bX
 have h2:=JU f.aZ
 have h3:=vW f.bT
 have h4:=Cn f.fBody hok
 have h5:=aR.sum f
 rw[dA] at h5
 rw[zN,iI]
 simp[fu,iQ,iI,iD,ng,YL];omega
theorem wN{vars:List (List UInt8)}{bs:List bA}(h:mP vars bs=true):∀b∈bs,formed b.fType=true:=fun b hb=>by
 unfold mP at h
 rw[Bool.and_eq_true] at h
 have h2:=List.all_eq_true.1 h.2 b hb
 unfold kX at h2
 simp only[Bool.and_eq_true] at h2
 exact ug h2.1.2
theorem qI{vars:List (List UInt8)}{t:ah}(h:fE vars t=true):formed t=true:=by
 unfold fE at h
 rw[Bool.and_eq_true] at h
 exact ug h.1
theorem CB{vars:List (List UInt8)}{e:au}(h:nJ vars e=true):gV e=true:=by
 unfold nJ zL at h
 simp only[Bool.and_eq_true] at h
 exact Nq h.2.1
theorem wE{f:aR}(h:jD f=true):(∀b∈f.bX,formed b.fType=true)∧(∀q∈f.aZ,formed q.fType=true)∧formed f.bT=true∧gV f.fBody=true:=by
 unfold jD at h
 simp only[Bool.and_eq_true] at h
 obtain⟨_,_,_,h1,_,h2,h3,h4⟩:=h
 exact⟨wN h1,fun q hq=>rW.1 (sG h2) _ (List.mem_map_of_mem hq),qI h3,CB h4⟩
end Go.Ab
namespace Go.Proofs.YtcfhnaohbaplhaaGreatDoor
open Go Go.Ab
theorem qh(xs:List bA)(n:Nat)(hfo:∀b∈xs,formed b.fType=true)(hlen:xs.length≤4194304)(hsz:∀b∈xs,b.sz≤4194304):aD Tryz.prog 229 [.c (.d (.sl (xs.map bA.enc)))] (.agg [.d (.s []),.d (.ol n (lx (xs.map nM) (n+1)))]):=fun S=>by
 obtain⟨L,hL⟩:∃L:Nat→Nat,L=fun i=>n+1+gB ((xs.map nM).take i):=⟨_,rfl⟩
 obtain⟨T,hT⟩:∃T:Nat→List (List D),T=fun i=>lx ((xs.map nM).take i) (n+1):=⟨_,rfl⟩
 have hT0:T 0=[]:=by rw[hT];rfl
 have fM:∀i,(T i).length≤i:=fun i=>by
  rw[hT];simp only[eT]
  exact List.length_take_le _ _
 have hTs:∀i (hi:i<xs.length),T i++[[.s [],.ol (L i) [[.s xs[i].bI,.ol (L i+1) []],[.s (cB xs[i].fType).bS,.ol (L i+1+1) (lx (cB xs[i].fType).aY (L i+1+1+1))]]]]=T (i+1):=fun i hi=>by
  have:=uY (l:=xs.map nM) (i:=i) (by rw[List.length_map];exact hi) (n+1)
  rw[List.getElem_map,nM,dJ,cO,iA,iA,kC,q8,iy,iO] at this
  rw[hT,hL];exact this
 have hTe:T xs.length=lx (xs.map nM) (n+1):=by
  rw[hT];simp only
  rw[List.take_of_length_le (by simp)]
 clear hT hL
 refine mY (n) 1 (rs:=[.cell 2 78]) Tryz.checked.mixed Tryz.func229 Tryz.ntmps229 rfl rfl rfl rfl rfl ?_
 refine W1 ?_
 refine W3 ?_
 refine kV n 3 2 [] (.inl rfl) (by simp) ?_
 refine kY (L 0) ?_
 refine aQ (ι:=Nat) Tryz.checked.mixed rfl [2,3,7,8,9] (fun i=>[.c (.ptr (0,2) 0),.c (.bH (0,3) (T i)),.c (.d (.sl (xs.map bA.enc))),.c (.d (.i .i64 xs.length)),.c (.d (.i .i64 i))])
  (fun i=>[.seed (L i),.seed 1,.box [.d (.s []),.bC []],.d9 n 2 (T i)]::S)
  (fun i=>i≤xs.length) (fun i=>xs.length-i) 0 (by rw[hT0];rfl) (by rw[hT0];rfl) (Nat.zero_le _) ?_
 intro i hi
 have hl:=fM i
 refine W1 ?_
 refine S0 (fun hb h=>?_) fun hb h=>?_
 ·have hi':i<xs.length:=by omega
  have hm:=List.getElem_mem hi'
  have hcz:=hsz _ hm
  have hce:=bA.sum xs[i]
  have hs:=hTs i hi'
  refine W3 ?_
  refine C1 (bY _ (L i+1)) ?_
  refine C1 (jC xs[i].fType (L i+1+1) (hfo _ hm) (by omega)) ?_
  refine W3 ?_
  refine C1 (kT _ _) ?_
  refine W3 ?_
  rw[hs]
  refine jd (L (i+1)) 3 (by decide) (i+1) (by omega) rfl rfl ?_ rfl (by omega)
  simp[gF,fG,V.refs,C.refs,iV]
 ·have hi':i=xs.length:=by omega
  refine dR rfl (iT 0 3 _ _) ?_
  refine W1 ?_
  rw[hi',hTe]
theorem Bh(f:aR)(n:Nat)(hv:jD f=true)(hsz:f.sz≤1048576):aD Tryz.prog 144 [f.v] (.agg [.d (.s []),.d (.ol n (lx (zN f).aY (n+1)))]):=fun S=>by
 have hdz:=aR.sum f
 rw[dA] at hdz
 obtain⟨hf1,hf2,hf3,yT⟩:=wE hv
 obtain⟨p,hp⟩:∃p:Nat,p=n+1+1+1+dz (bR (aT f.aF))+dz (bR (f.bX.map nM)):=⟨_,rfl⟩
 obtain⟨L,hL⟩:∃L:Nat→Nat,L=fun i=>p+1+gB ((f.aZ.map oK).take i):=⟨_,rfl⟩
 obtain⟨T,hT⟩:∃T:Nat→List (List D),T=fun i=>lx ((f.aZ.map oK).take i) (p+1):=⟨_,rfl⟩
 have hT0:T 0=[]:=by rw[hT];rfl
 have fM:∀i,(T i).length≤i:=fun i=>by
  rw[hT];simp only[eT]
  exact List.length_take_le _ _
 have hTs:∀i (hi:i<f.aZ.length),T i++[[.s [],.ol (L i) [[.s f.aZ[i].fName,.ol (L i+1) []],[.s (cB f.aZ[i].fType).bS,.ol (L i+1+1) (lx (cB f.aZ[i].fType).aY (L i+1+1+1))]]]]=T (i+1):=fun i hi=>by
  have:=uY (l:=f.aZ.map oK) (i:=i) (by rw[List.length_map];exact hi) (p+1)
  rw[List.getElem_map,oK,dJ,cO,iA,iA,kC,q8,iy,iO] at this
  rw[hT,hL];exact this
 have hTe:T f.aZ.length=lx (f.aZ.map oK) (p+1):=by
  rw[hT];simp only
  rw[List.take_of_length_le (by simp)]
 clear hT hL
 refine mY (p) 1 (rs:=[.cell 2 78]) Tryz.checked.mixed Tryz.func144 Tryz.ntmps144 rfl rfl rfl rfl rfl ?_
 refine W1 ?_
 refine W3 ?_
 refine kV p 3 2 [] (.inl rfl) (by simp) ?_
 refine kY (L 0) ?_
 refine xO (ze 4 p n) ?_
 refine aQ (ι:=Nat) Tryz.checked.mixed rfl [1,2,3,8,9,10] (fun i=>[.c (.ptr (0,2) 0),.c (.ptr (0,3) 0),.c (.bH (0,4) (T i)),.c (.d (.sl (f.aZ.map bG.enc))),.c (.d (.i .i64 f.aZ.length)),.c (.d (.i .i64 i))])
  (fun i=>[.seed (L i),.seed 1,.box [.d (.s f.fName),.d (.sl (f.aF.map encS)),.d (.sl (f.bX.map bA.enc)),.d (.sl (f.aZ.map bG.enc)),.d (.i .i64 f.bT.aU),.d (.s f.bT.fName),.d (.sl (f.bT.fArgs.map ah.enc)),.d (.i .i64 f.fBody.aU),.d (.s f.fBody.bI),.d (.s f.fBody.fName),.d (.i .i64 f.fBody.fN),.d (.i .i64 f.fBody.fType.aU),.d (.s f.fBody.fType.fName),.d (.sl (f.fBody.fType.fArgs.map ah.enc)),.d (.sl (f.fBody.fArgs.map au.enc)),.d (.sl (f.fBody.aW.map aX.enc))],.box [.d (.s []),.bC []],.d9 p 2 (T i)]::S)
  (fun i=>i≤f.aZ.length) (fun i=>f.aZ.length-i) 0 (by rw[hT0];rfl) (by rw[hT0];rfl) (Nat.zero_le _) ?_
 intro i hi
 have hl:=fM i
 refine W1 ?_
 refine S0 (fun hb h=>?_) fun hb h=>?_
 ·have hi':i<f.aZ.length:=by omega
  have hm:=List.getElem_mem hi'
  have hcz:=Di hm
  have hce:=bG.sum f.aZ[i]
  have hs:=hTs i hi'
  refine W3 ?_
  refine C1 (bY _ (L i+1)) ?_
  refine C1 (jC f.aZ[i].fType (L i+1+1) (hf2 _ hm) (by omega)) ?_
  refine W3 ?_
  refine C1 (kT _ _) ?_
  refine W3 ?_
  rw[hs]
  refine jd (L (i+1)) 4 (by decide) (i+1) (by omega) rfl rfl ?_ rfl (by omega)
  simp[gF,fG,V.refs,C.refs,iV]
 ·have hi':i=f.aZ.length:=by omega
  subst hi'
  rw[hTe]
  refine C1 (bY _ (n+1)) ?_
  refine C1 (bY _ (n+1+1)) ?_
  refine C1 (dN f.aF (by omega) (n+1+1+1)) ?_
  refine C1 (qh f.bX (n+1+1+1+dz (bR (aT f.aF))) hf1 (by omega) (fun b hb=>by have:=mJ hb;omega)) ?_
  refine C1 (jm _) ?_
  refine C1 (jC f.bT (p+dz (bR (f.aZ.map oK))) hf3 (by omega)) ?_
  refine C1 (uz f.fBody (p+dz (bR (f.aZ.map oK))+dz (cB f.bT)) yT (by omega)) ?_
  refine W3 ?_
  refine C1 (kT _ _) ?_
  rw[zN,cO]
  simp only[iA,kC,iy,jk,jl,dJ,cO,iO,←hp,YL]
theorem ru(xs:List bA)(hlen:xs.length≤4194304)(hsz:∀b∈xs,b.sz≤4194304):aD Tryz.prog 221 [.c (.d (.sl (xs.map bA.enc)))] (.agg [.d (.s []),.d (.sl ((xs.map nM).map aj.enc))]):=fun S=>by
 obtain⟨T,hT⟩:∃T:Nat→List (List D),T=fun i=>((xs.map nM).take i).map aj.enc:=⟨_,rfl⟩
 have hT0:T 0=[]:=by rw[hT];rfl
 have fM:∀i,(T i).length≤i:=fun i=>by
  rw[hT];simp only[List.length_map]
  exact List.length_take_le _ _
 have hTs:∀i (hi:i<xs.length),T i++[[.s [],.sl [[.s xs[i].bI,.sl []],[.s (cB xs[i].fType).bS,.sl ((cB xs[i].fType).aY.map aj.enc)]]]]=T (i+1):=fun i hi=>by
  have:=gQ (base:=[]) (l:=xs.map nM) (i:=i) (by rw[List.length_map];exact hi)
  rw[List.getElem_map,nM,dJ,cO,List.map_cons,List.map_cons,List.map_nil,dX,aj.aH (cB xs[i].fType)] at this
  rw[hT];exact this
 have hTe:T xs.length=(xs.map nM).map aj.enc:=by
  rw[hT];simp only
  rw[List.take_of_length_le (by simp)]
 clear hT
 refine aB (rs:=[.cell 2 78]) Tryz.checked.mixed Tryz.func221 Tryz.ntmps221 rfl rfl rfl rfl rfl ?_
 refine W1 ?_
 refine nV 1 1 2 [] [.d (.s []),.bC []] rfl rfl (by simp) ?_
 refine aQ (ι:=Nat) Tryz.checked.mixed rfl [0,2,3,4] (fun i=>[.c (.d (.sl (xs.map bA.enc))),.c (.ptr (0,0) 0),.c (.ptr (0,1) 0),.c (.d (.i .i64 i))])
  (fun i=>[.box [.d (.s []),.bC []],.box [.d (.s []),.bH (0,2) (T i)],.tok 2 (T i)]::S)
  (fun i=>i≤xs.length) (fun i=>xs.length-i) 0 rfl (by rw[hT0];rfl) (Nat.zero_le _) ?_
 intro i hi
 have hl:=fM i
 refine W1 ?_
 refine S0 (fun hb h=>?_) fun hb h=>?_
 ·have hi':i<xs.length:=by omega
  have hm:=List.getElem_mem hi'
  have hcz:=hsz _ hm
  have hce:=bA.sum xs[i]
  have hs:=hTs i hi'
  refine W3 ?_
  refine C1 (bJ _) ?_
  refine W3 ?_
  refine C1 (jN xs[i].fType (by omega)) ?_
  refine W3 ?_
  refine C1 (kJ _ (by simp) (by simp)) ?_
  refine W3 ?_
  rw[hs]
  exact bF (i+1) (by omega) rfl rfl (by omega)
 ·have hi':i=xs.length:=by omega
  subst hi'
  rw[hTe]
theorem JV(f:aR)(hsz:f.sz≤1048576):aD Tryz.prog 133 [f.v] (AV f).v:=by
 unfold AV
 cases hv:jD f with
 |false=>
  rw[qV]
  refine aD.less (fun S=> ?_) (u6 [] [])
  refine aB (rs:=[.cell 2 78]) Tryz.checked.mixed Tryz.func133 Tryz.ntmps133 rfl rfl rfl rfl rfl ?_
  refine W1 ?_
  refine bN (u7 f (by omega)) ?_
  simp -implicitDefEqProofs (disch:=omega) only[go_sem,hv]
 |true=>
  intro S
  have hdz:=aR.sum f
  rw[dA] at hdz
  obtain⟨hf1,hf2,hf3,yT⟩:=wE hv
  have hz:=Vt yT
  obtain⟨T,hT⟩:∃T:Nat→List (List D),T=fun i=>((f.aZ.map oK).take i).map aj.enc:=⟨_,rfl⟩
  have hT0:T 0=[]:=by rw[hT];rfl
  have fM:∀i,(T i).length≤i:=fun i=>by
   rw[hT];simp only[List.length_map]
   exact List.length_take_le _ _
  have hTs:∀i (hi:i<f.aZ.length),T i++[[.s [],.sl [[.s f.aZ[i].fName,.sl []],[.s (cB f.aZ[i].fType).bS,.sl ((cB f.aZ[i].fType).aY.map aj.enc)]]]]=T (i+1):=fun i hi=>by
   have:=gQ (base:=[]) (l:=f.aZ.map oK) (i:=i) (by rw[List.length_map];exact hi)
   rw[List.getElem_map,oK,dJ,cO,List.map_cons,List.map_cons,List.map_nil,dX,aj.aH (cB f.aZ[i].fType)] at this
   rw[hT];exact this
  have hTe:T f.aZ.length=(f.aZ.map oK).map aj.enc:=by
   rw[hT];simp only
   rw[List.take_of_length_le (by simp)]
  clear hT
  refine aB (rs:=[.cell 2 78]) Tryz.checked.mixed Tryz.func133 Tryz.ntmps133 rfl rfl rfl rfl rfl ?_
  refine W1 ?_
  refine bN (u7 f (by omega)) ?_
  simp -implicitDefEqProofs (disch:=omega) only[go_sem,hv]
  refine nV 2 1 2 [] [.d (.s []),.bC []] rfl rfl (by simp) ?_
  refine aQ (ι:=Nat) Tryz.checked.mixed rfl [1,2,3,4] (fun i=>[.c (.ptr (0,0) 0),.c (.ptr (0,1) 0),.c (.ptr (0,2) 0),.c (.d (.i .i64 i))])
   (fun i=>[.box [.d (.s f.fName),.d (.sl (f.aF.map encS)),.d (.sl (f.bX.map bA.enc)),.d (.sl (f.aZ.map bG.enc)),.d (.i .i64 f.bT.aU),.d (.s f.bT.fName),.d (.sl (f.bT.fArgs.map ah.enc)),.d (.i .i64 f.fBody.aU),.d (.s f.fBody.bI),.d (.s f.fBody.fName),.d (.i .i64 f.fBody.fN),.d (.i .i64 f.fBody.fType.aU),.d (.s f.fBody.fType.fName),.d (.sl (f.fBody.fType.fArgs.map ah.enc)),.d (.sl (f.fBody.fArgs.map au.enc)),.d (.sl (f.fBody.aW.map aX.enc))],.box [.d (.s []),.bC []],.box [.d (.s []),.bH (0,3) (T i)],.tok 2 (T i)]::S)
   (fun i=>i≤f.aZ.length) (fun i=>f.aZ.length-i) 0 rfl (by rw[hT0];rfl) (Nat.zero_le _) ?_
  intro i hi
  have hl:=fM i
  refine W1 ?_
  refine S0 (fun hb h=>?_) fun hb h=>?_
  ·have hi':i<f.aZ.length:=by omega
   have hm:=List.getElem_mem hi'
   have hcz:=Di hm
   have hce:=bG.sum f.aZ[i]
   have hs:=hTs i hi'
   refine W3 ?_
   refine C1 (bJ _) ?_
   refine W3 ?_
   refine C1 (jN f.aZ[i].fType (by omega)) ?_
   refine W3 ?_
   refine C1 (kJ _ (by simp) (by simp)) ?_
   refine W3 ?_
   rw[hs]
   exact bF (i+1) (by omega) rfl rfl (by omega)
  ·have hi':i=f.aZ.length:=by omega
   subst hi'
   rw[hTe]
   refine C1 (bJ _) ?_
   refine C1 (bJ _) ?_
   refine C1 (dG f.aF (by omega)) ?_
   refine C1 (ru f.bX (by omega) (fun b hb=>by have:=mJ hb;omega)) ?_
   refine C1 (jN f.bT (by omega)) ?_
   refine C1 (o8 f.fBody yT (by omega)) ?_
   refine W3 ?_
   refine C1 (kJ _ (by simp) (by simp)) ?_
   refine W3 ?_
   have hI:=ni true (zN f) (by omega)
   have hx:(zN f).v=V.agg [.d (.s []),.d (.sl [[.s [102,110],.sl []],[.s f.fName,.sl []],[.s [],.sl ((aT f.aF).map aj.enc)],[.s [],.sl ((f.bX.map nM).map aj.enc)],[.s [],.sl ((f.aZ.map oK).map aj.enc)],[.s (cB f.bT).bS,.sl ((cB f.bT).aY.map aj.enc)],[.s (eG f.fBody).bS,.sl ((eG f.fBody).aY.map aj.enc)]])]:=by
    rw[zN]
    show V.agg [.d (.s []),.d (.sl (List.map aj.enc _))]=_
    simp only[cO,List.map_cons,List.map_nil,dX,iq,aj.aH (cB f.bT),aj.aH (eG f.fBody),YL]
   rw[hx] at hI
   refine bN hI ?_
   exact Z1
end Go.Proofs.YtcfhnaohbaplhaaGreatDoor
namespace Go.Ab
noncomputable def jJ(t:bg):List (List UInt8):=t.aA.map aS.fName
noncomputable def rG(t:bg):Prop:=t.nL=true∧(t.bQ=true∨0<t.aA.length∨0<t.bE.length)
noncomputable def dH(t:bg):Bool:=
 validName t.fName&&(dec (t.bE.length≤4)&&(gP t.bE&&(dec (t.aA.length≤6)&&(!dec (rG t)&&(t.aA.all gM&&dec (jJ t).Nodup)))))
theorem bg.sum(x:bg):x.fName.length+(x.bE.length+aI (x.bE.map encS))+(x.aA.length+aI (x.aA.map aS.enc))≤x.sz:=by
 simp only[bg.sz,bg.aH,bL,bf,D.sz,List.length_map]
 omega
theorem tC{xs:List aS}{t:aS}(h:t∈xs):t.sz≤aI (xs.map aS.enc):=bD (List.mem_map_of_mem h)
theorem SF{g:aS}(h:gM g=true):validName g.fName=true:=by
 unfold gM at h
 rw[Bool.and_eq_true] at h
 exact h.1
theorem Pf{t:bg}(h:t.aA.all gM=true):(jJ t).all validName=true:=by
 unfold jJ
 rw[List.all_map]
 refine List.all_eq_true.2 fun g hg=>SF (List.all_eq_true.1 h g hg)
end Go.Ab
namespace Go.Proofs.YtcfhnaohbaplhaaGreatDoor
open Go Go.Ab
theorem Du(t:bg)(hsz:t.sz≤4194304):aD Tryz.prog 172 [t.v] (.c (.d (.b (dH t)))):=fun S=>by
 have hs:=bg.sum t
 have hV:∀s∈t.bE,s.length≤4194304:=fun s h=>by have:=nX h;omega
 have hG:∀g∈t.aA,g.sz≤4194304:=fun g h=>by have:=tC h;omega
 refine(show Hold ((validName t.fName=true∧t.bE.length≤4∧gP t.bE=true∧t.aA.length≤6∧¬rG t)→ ?T)→_ from fun tail=> ?main) ?tp
 case' main=>
  refine aB (rs:=[.tmp 2]) Tryz.checked.mixed Tryz.func172 Tryz.ntmps172 rfl rfl rfl rfl rfl ?_
  refine W1 ?_
  refine C2 (fP t.fName (by omega)) ?_
  refine S0 (fun hb h=>?_) fun hb h=>?_
  ·exact ay (by unfold dH;rw[h];rfl)
  have h1:=h
  refine S0 (fun hb h=>?_) fun hb h=>?_
  ·exact ay (by unfold dH;rw[aC (show ¬t.bE.length≤4 by omega)];simp)
  have h2:=h
  refine W3 ?_
  refine C2 (lV t.bE (by omega) hV) ?_
  refine S0 (fun hb h=>?_) fun hb h=>?_
  ·exact ay (by unfold dH;rw[h];simp)
  have h3:=h
  refine S0 (fun hb h=>?_) fun hb h=>?_
  ·exact ay (by unfold dH;rw[aC (show ¬t.aA.length≤6 by omega)];simp)
  have h4:=h
  have bad:rG t→V.c (.d (.b false))=V.c (.d (.b (dH t))):=fun h=>ay (by unfold dH;rw[bq h];simp)
  have pre:¬rG t→(validName t.fName=true∧t.bE.length≤4∧gP t.bE=true∧t.aA.length≤6∧¬rG t):=fun h=>⟨h1,by omega,h3,by omega,h⟩
  repeat' (first|refine S0 (fun hb h=>?_) fun hb h=>?_)
  all_goals first
   |(refine bad ⟨by assumption,?_⟩;first|exact .inl (by assumption)|exact .inr (.inl (by omega))|exact .inr (.inr (by omega)))
   |skip
  all_goals
   have na:¬rG t:=fun x=>by
    obtain⟨x1,x2⟩:=x
    rcases x2 with x2|x2|x2<;>first|omega|simp_all
   refine W3 ?_
   refine nD 3 1 [] rfl (by simp) ?_
   refine oz (st':=[.box (t.enc.map .d),.tok 1 []]::S) [3,48,49,50] [.c (.bH (0,1) []),.c (.d (.sl (t.aA.map aS.enc))),.c (.d (.i .i64 t.aA.length)),.c (.d (.i .i64 0))] ?_ ?_ ?_
   ·rfl
   ·first|(refine W1 ?_;done)|(refine W1 ?_;simp[*])
   ·exact tail.out (pre na)
 refine⟨fun hp=> ?_⟩
 obtain⟨h1,h2,h3,h4,h5⟩:=hp
 have bad:∀i,∀hi:i<t.aA.length,gM t.aA[i]=false→dH t=false:=fun i hi h=>by
  have:t.aA.all gM=false:=Bool.eq_false_iff.2 fun hx=>by
   rw[List.all_eq_true.1 hx _ (List.getElem_mem hi)] at h;cases h
  unfold dH
  rw[this];simp
 refine aQ (ι:=Nat×List (List UInt8)) Tryz.checked.mixed rfl [3,48,49,50] (fun y=>[.c (.bH (0,1) (y.2.map encS)),.c (.d (.sl (t.aA.map aS.enc))),.c (.d (.i .i64 t.aA.length)),.c (.d (.i .i64 y.1))]) (fun y=>[.box (t.enc.map .d),.tok 1 (y.2.map encS)]::S)
  (fun y=>y.1≤t.aA.length∧y.2=(jJ t).take y.1∧∀j,∀hj:j<t.aA.length,j<y.1→gM t.aA[j]=true) (fun y=>t.aA.length-y.1) (0,[]) rfl ?_ ⟨Nat.zero_le _,rfl,fun j _ h=>by simp only at h;omega⟩ ?_
 ·exact Z1
 rintro⟨i,names⟩ ⟨p1,p2,p3⟩
 simp only at p1 p2 p3
 have pl:names.length≤t.aA.length:=by rw[p2];simp[jJ];omega
 refine W1 ?_
 refine S0 (fun hb h=>?_) fun hb h=>?_
 ·have hi:i<t.aA.length:=by omega
  refine W3 ?_
  refine C2 (IK t.aA[i] (hG _ (List.getElem_mem hi))) ?_
  refine S0 (fun hb h=>?_) fun hb h=>?_
  ·rw[bad i hi h]
  have k2:=h
  refine W3 ?_
  rw[show List.map encS names++[[D.s t.aA[i].fName]]=List.map encS (names++[t.aA[i].fName]) by simp[encS]]
  exact cu 2 (by decide) (i+1,names++[t.aA[i].fName]) (by simp only;omega) rfl rfl rfl rfl ⟨by simp only;omega,by simp only;rw[p2,gG (by simpa [jJ] using hi)];simp[jJ],fun j hj hji=>by
   simp only at hji
   by_cases e:j=i
   ·subst e;exact k2
   ·exact p3 j hj (by omega)⟩
 have hi:i=t.aA.length:=by omega
 have hn:names=jJ t:=by rw[p2,List.take_of_length_le (by simp[jJ];omega)]
 have hall:t.aA.all gM=true:=List.all_eq_true.2 fun c hc=>by
  obtain⟨j,hj,e⟩:=List.getElem_of_mem hc
  rw[←e];exact p3 j hj (by omega)
 refine C2 (mH names (by omega)) ?_
 exact ay (by unfold dH;rw[h1,h3,hall,←hn,bq h2,bq h4,aC h5];simp)
theorem mV(t:bg)(hsz:t.sz≤4194304):aD Tryz.prog 217 [t.v] (.c (.d (.b (dH t)))):=fun S=>by
 have hs:=bg.sum t
 have hV:∀s∈t.bE,s.length≤4194304:=fun s h=>by have:=nX h;omega
 have hG:∀g∈t.aA,g.sz≤4194304:=fun g h=>by have:=tC h;omega
 have bad:∀i,∀hi:i<t.aA.length,gM t.aA[i]=false→dH t=false:=fun i hi h=>by
  have:t.aA.all gM=false:=Bool.eq_false_iff.2 fun hx=>by
   rw[List.all_eq_true.1 hx _ (List.getElem_mem hi)] at h;cases h
  unfold dH
  rw[this];simp
 have afl:rG t→V.c (.d (.b false))=V.c (.d (.b (dH t))):=fun h=>ay (by unfold dH;rw[bq h];simp)
 refine aB (rs:=[.tmp 2]) Tryz.checked.mixed Tryz.func217 Tryz.ntmps217 rfl rfl rfl rfl rfl ?_
 refine W1 ?_
 refine W3 ?_
 refine nD 3 1 [] rfl (by simp) ?_
 refine aQ (ι:=Nat×List (List UInt8)) Tryz.checked.mixed rfl [1,3,4] (fun y=>[.c (.ptr (0,0) 0),.c (.bH (0,1) (y.2.map encS)),.c (.d (.i .i64 y.1))]) (fun y=>[.box (t.enc.map .d),.tok 1 (y.2.map encS)]::S)
  (fun y=>y.1≤t.aA.length∧y.2=(jJ t).take y.1∧∀j,∀hj:j<t.aA.length,j<y.1→gM t.aA[j]=true) (fun y=>t.aA.length-y.1) (0,[]) rfl ?_ ⟨Nat.zero_le _,rfl,fun j _ h=>by simp only at h;omega⟩ ?_
 ·exact Z1
 rintro⟨i,names⟩ ⟨p1,p2,p3⟩
 simp only at p1 p2 p3
 have pl:names.length≤t.aA.length:=by rw[p2];simp[jJ];omega
 refine W1 ?_
 refine S0 (fun hb h=>?_) fun hb h=>?_
 ·have hi:i<t.aA.length:=by omega
  refine W3 ?_
  refine C2 (Vr t.aA[i] (hG _ (List.getElem_mem hi))) ?_
  refine S0 (fun hb h=>?_) fun hb h=>?_
  ·rw[bad i hi h]
  have k2:=h
  refine W3 ?_
  rw[show List.map encS names++[[D.s t.aA[i].fName]]=List.map encS (names++[t.aA[i].fName]) by simp[encS]]
  exact bF (i+1,names++[t.aA[i].fName]) (by simp only;omega) rfl rfl ⟨by simp only;omega,by simp only;rw[p2,gG (by simpa [jJ] using hi)];simp[jJ],fun j hj hji=>by
   simp only at hji
   by_cases e:j=i
   ·subst e;exact k2
   ·exact p3 j hj (by omega)⟩
 have hi:i=t.aA.length:=by omega
 have hn:names=jJ t:=by rw[p2,List.take_of_length_le (by simp[jJ];omega)]
 have hall:t.aA.all gM=true:=List.all_eq_true.2 fun c hc=>by
  obtain⟨j,hj,e⟩:=List.getElem_of_mem hc
  rw[←e];exact p3 j hj (by omega)
 have Fb:=Pf hall
 have hnl:∀s∈names,s.length≤4194304:=fun s hm=>by
  rw[hn] at hm
  obtain⟨g,hg,e⟩:=List.mem_map.1 hm
  have:=hG g hg
  have:=aS.sum g
  rw[←e]
  omega
 have hlen:names.length=t.aA.length:=by rw[hn];simp[jJ]
 clear bad p2 p3
 repeat' (first|refine S0 (fun hb h=>?_) fun hb h=>?_)
 all_goals first
  |(refine afl ⟨by assumption,?_⟩;first|exact .inl (by assumption)|exact .inr (.inl (by omega))|exact .inr (.inr (by omega)))
  |skip
 all_goals
  have na:¬rG t:=fun x=>by
   obtain⟨x1,x2⟩:=x
   rcases x2 with x2|x2|x2<;>first|omega|simp_all
  refine W3 ?_
  refine C1 (fQ t.fName (by omega)) ?_
  refine S0 (fun hb h=>?_) fun hb h=>?_
  ·have h1:=h
   refine W3 ?_
   refine C2 (jV t.bE 4 (by omega) hV) ?_
   refine S0 (fun hb h=>?_) fun hb h=>?_
   ·have h2:=h
    rw[Bool.and_eq_true] at h2
    have h3:=iN h2.1
    refine C2 (jV names 6 (by omega) hnl) ?_
    refine ay ?_
    unfold dH
    rw[h1,h2.2,hall,aC na,bq (show t.bE.length≤4 by omega),hlen]
    unfold gP
    rw[hn,Fb,Bool.and_true]
    simp only[Bool.true_and,Bool.not_false]
    congr 1
    exact gN ⟨fun h=>by omega,fun h=>by omega⟩
   ·refine ay ?_
    unfold dH
    have h2:(dec (t.bE.length≤4)&&gP t.bE)=false:=by
     rw[←h];congr 1;exact gN ⟨fun h=>by omega,fun h=>by omega⟩
    rw[←Bool.and_assoc (dec (t.bE.length≤4)),h2];simp
  ·exact ay (by unfold dH;rw[h];rfl)
end Go.Proofs.YtcfhnaohbaplhaaGreatDoor
namespace Go.Ab
def wY:List UInt8:=[97,117,116,111]
def vZ:List UInt8:=[116,114,97,105,116]
def mW(t:bg):List (List UInt8):=(if t.nL=true then [wY] else [])++(if t.bQ=true then [ku] else [])
def lG(g:aS):aj:=bR ([bO g.fName,bR (g.aZ.map cB),cB g.bT]++if g.ig=true then [bR (aT g.aF),eG g.fBody] else [])
theorem Qc(n:Nat)(es:List (List D)):Less (.c (.d (.ol n es))) (.c (.d (.sl es))):=fun w σ S β v h=>⟨vN h.1,h.2⟩
def gW(t:bg):List aj:=[bO vZ,bO t.fName,bR (aT t.bE),bR (aT (mW t))]
def lM(t:bg):aj:=bR (gW t++t.aA.map lG)
noncomputable def rY(x:bg):aj:=qV (dH x) (lM x)
theorem xu{g:aS}(h:g.ig=true):(lG g).aY=[bO g.fName,bR (g.aZ.map cB),cB g.bT,bR (aT g.aF),eG g.fBody]:=by rw[lG,if_pos h];rfl
theorem xw{g:aS}(h:g.ig=false):(lG g).aY=[bO g.fName,bR (g.aZ.map cB),cB g.bT]:=by rw[lG,if_neg (by rw[h];decide)];rfl
theorem vg(g:aS):(lG g).bS=[]:=rfl
theorem oC{g:aS}(h:gM g=true):iP g.aZ=true∧formed g.bT=true∧(g.ig=true→gV g.fBody=true):=by
 unfold gM at h
 simp only[Bool.and_eq_true] at h
 obtain⟨_,_,h1,h2,h3⟩:=h
 refine⟨sG h1,qI h2,fun hd=> ?_⟩
 rw[if_pos hd,Bool.and_eq_true] at h3
 exact CB h3.2
theorem abp(g:aS)(hok:gM g=true):(lG g).sz≤48+32*g.sz:=by
 obtain⟨_,_,hb⟩:=oC hok
 have h1:=F5 g.aZ
 have h2:=vW g.bT
 have h3:=aS.sum g
 rw[dA,xW] at h3
 by_cases hd:g.ig=true
 ·have h4:=Cn g.fBody (hb hd)
  rw[lG,if_pos hd,iI]
  simp[fu,iQ,iI,iD,ng];omega
 ·rw[lG,if_neg hd,iI]
  simp[fu,iQ,iI,iD,ng];omega
theorem Qd:∀l:List aS,(∀g∈l,gM g=true)→fu (l.map lG)≤48*l.length+32*aI (l.map aS.enc)
 |[],_=>by simp[fu]
 |c::l,h=>by
  have h1:=abp c (h c (List.mem_cons_self ..))
  have h2:=Qd l fun g hg=>h g (List.mem_cons_of_mem _ hg)
  rw[List.map_cons,fu,List.map_cons,aI,List.length_cons];simp only[aS.sz] at h1;omega
theorem iU{t:bg}(h:dH t=true):(∀g∈t.aA,gM g=true)∧¬(t.nL=true∧t.bQ=true):=by
 unfold dH at h
 simp only[Bool.and_eq_true,Bool.not_eq_true'] at h
 obtain⟨_,_,_,_,h1,h2,_⟩:=h
 refine⟨fun g hg=>List.all_eq_true.1 h2 g hg,fun hh=> ?_⟩
 rw[bq (show rG t from⟨hh.1,.inl hh.2⟩)] at h1
 cases h1
theorem Vu(t:bg):(mW t).length≤2∧((mW t).map List.length).sum≤9:=by
 unfold mW;split<;>split<;>simp[wY,ku]
theorem Dj{t:bg}(hok:dH t=true):(lM t).sz≤64+49*t.sz:=by
 have h1:=Qd t.aA (iU hok).1
 have h2:=Vu t
 have h3:=bg.sum t
 rw[dA] at h3
 rw[lM,iI,gJ,List.length_append,List.length_map]
 simp[gW,fu,iQ,iI,iD,ng,vZ];omega
theorem zf(n:Nat)(a b:List UInt8)(w v:List (List UInt8)):lx [bO a,bO b,bR (aT w),bR (aT v)] (n+1)=[[.s a,.ol (n+1) []],[.s b,.ol (n+1+1) []],[.s [],.ol (n+1+1+1) (lx (aT w) (n+1+1+1+1))],[.s [],.ol (n+1+1+1+dz (bR (aT w))) (lx (aT v) (n+1+1+1+dz (bR (aT w))+1))]]:=by
 simp only[iA,kC,iy,jk,jl,dJ,cO,iO]
end Go.Ab
namespace Go.Proofs.YtcfhnaohbaplhaaGreatDoor
open Go Go.Ab
theorem Pg(t:bg)(n:Nat)(hv:dH t=true)(hsz:t.sz≤1048576)(ha:t.nL=true)(hs:t.bQ=false):aD Tryz.prog 141 [t.v] (.agg [.d (.s []),.d (.ol n (lx (lM t).aY (n+1)))]):=fun S=>by
 have hdz:=bg.sum t
 rw[dA] at hdz
 obtain⟨hso,_⟩:=iU hv
 have hfl:mW t=[wY]:=by unfold mW;rw[ha,hs];rfl
 obtain⟨L,hL⟩:∃L:Nat→Nat,L=fun i=>n+1+gB (gW t++(t.aA.map lG).take i):=⟨_,rfl⟩
 obtain⟨T,hT⟩:∃T:Nat→List (List D),T=fun i=>lx (gW t++(t.aA.map lG).take i) (n+1):=⟨_,rfl⟩
 have hT0:T 0=[[.s vZ,.ol (n+1) []],[.s t.fName,.ol (n+1+1) []],[.s [],.ol (n+1+1+1) (lx (aT t.bE) (n+1+1+1+1))],[.s [],.ol (n+1+1+1+dz (bR (aT t.bE))) (lx (aT [wY]) (n+1+1+1+dz (bR (aT t.bE))+1))]]:=by
  rw[hT];simp only[List.take_zero,List.append_nil,gW,hfl];exact zf _ _ _ _ _
 have fM:∀i,(T i).length≤i+4:=fun i=>by
  rw[hT];simp only[eT,List.length_append]
  have:=List.length_take_le i (t.aA.map lG)
  simp[gW];omega
 have hTs:∀i (hi:i<t.aA.length),T i++[[.s [],.ol (L i) (lx (lG t.aA[i]).aY (L i+1))]]=T (i+1):=fun i hi=>by
  have:=uZ (base:=gW t) (l:=t.aA.map lG) (i:=i) (by rw[List.length_map];exact hi) (n+1)
  rw[List.getElem_map,vg] at this
  rw[hT,hL];exact this
 have hTr:∀i,∀r∈T i,r.length=2:=fun i=>by rw[hT];exact iZ
 have hTe:T t.aA.length=lx (lM t).aY (n+1):=by
  rw[hT];simp only
  rw[List.take_of_length_le (by simp)];rfl
 clear hT hL
 refine mY (n) 1 (rs:=[.cell 2 78]) Tryz.checked.mixed Tryz.func141 Tryz.ntmps141 rfl rfl rfl rfl rfl ?_
 simp -implicitDefEqProofs (disch:=omega) only[go_sem,ha,hs]
 refine W3 ?_
 refine C1 (bY _ (n+1)) ?_
 refine C1 (bY _ (n+1+1)) ?_
 refine C1 (dN t.bE (by omega) (n+1+1+1)) ?_
 refine nH (dN [wY] (by simp) (n+1+1+1+dz (bR (aT t.bE)))) (.cons (Qc n _) .nil) ?_
 refine W1 ?_
 refine W3 ?_
 refine kV n 4 2 (T 0) (.inl ?_) (hTr 0) ?_
 ·rw[hT0];rfl
 refine kY (L 0) ?_
 refine aQ (ι:=Nat) Tryz.checked.mixed rfl [2,4,30,31,32] (fun i=>[.c (.ptr (0,3) 0),.c (.bH (0,4) (T i)),.c (.d (.sl (t.aA.map aS.enc))),.c (.d (.i .i64 t.aA.length)),.c (.d (.i .i64 i))])
  (fun i=>[.seed (L i),.seed 1,.box [.d (.s t.fName),.d (.sl (t.bE.map encS)),.d (.b true),.d (.b false),.d (.sl (t.aA.map aS.enc))],.box [.d (.s []),.bC []],.d9 n 2 (T i)]::S)
  (fun i=>i≤t.aA.length) (fun i=>t.aA.length-i) 0 rfl rfl (Nat.zero_le _) ?_
 intro i hi
 have hl:=fM i
 refine W1 ?_
 refine S0 (fun hb h=>?_) fun hb h=>?_
 ·have hi':i<t.aA.length:=by omega
  have hm:=List.getElem_mem hi'
  have hcz:=tC hm
  have hce:=aS.sum t.aA[i]
  rw[dA] at hce
  obtain⟨q1,q2,q3⟩:=oC (hso _ hm)
  have hst:=hTs i hi'
  refine W3 ?_
  refine C1 (bY _ (L i+1)) ?_
  refine C1 (vJ t.aA[i].aZ (L i+1+1) (L i+1+1+1) q1 (by omega) (fun u hu=>by have:=tu hu;omega)) ?_
  refine C1 (jm _) ?_
  refine C1 (jC t.aA[i].bT (L i+1+1+dz (bR (t.aA[i].aZ.map cB))) q2 (by omega)) ?_
  refine S0 (fun hb h=>?_) fun hb h=>?_
  ·rw[xu h] at hst
   simp only[iA,kC,iy,jk,jl,dJ,cO,iO] at hst
   refine C1 (dN t.aA[i].aF (by omega) (L i+1+1+dz (bR (t.aA[i].aZ.map cB))+dz (cB t.aA[i].bT))) ?_
   refine C1 (uz t.aA[i].fBody (L i+1+1+dz (bR (t.aA[i].aZ.map cB))+dz (cB t.aA[i].bT)+dz (bR (aT t.aA[i].aF))) (q3 h) (by omega)) ?_
   refine W3 ?_
   refine C1 (jm _) ?_
   refine W3 ?_
   rw[hst]
   refine jd (L (i+1)) 4 (by decide) (i+1) (by omega) rfl rfl ?_ rfl (by omega)
   simp[gF,fG,V.refs,C.refs,iV]
  ·rw[xw h] at hst
   simp only[iA,kC,iy,jk,jl,dJ,cO,iO] at hst
   refine C1 (kT _ _) ?_
   refine W3 ?_
   rw[hst]
   refine jd (L (i+1)) 4 (by decide) (i+1) (by omega) rfl rfl ?_ rfl (by omega)
   simp[gF,fG,V.refs,C.refs,iV]
 ·have hi':i=t.aA.length:=by omega
  refine dR rfl (iT 0 4 _ _) ?_
  refine W1 ?_
  rw[hi',hTe]
theorem Ph(t:bg)(n:Nat)(hv:dH t=true)(hsz:t.sz≤1048576)(ha:t.nL=false)(hs:t.bQ=true):aD Tryz.prog 141 [t.v] (.agg [.d (.s []),.d (.ol n (lx (lM t).aY (n+1)))]):=fun S=>by
 have hdz:=bg.sum t
 rw[dA] at hdz
 obtain⟨hso,_⟩:=iU hv
 have hfl:mW t=[ku]:=by unfold mW;rw[ha,hs];rfl
 obtain⟨L,hL⟩:∃L:Nat→Nat,L=fun i=>n+1+gB (gW t++(t.aA.map lG).take i):=⟨_,rfl⟩
 obtain⟨T,hT⟩:∃T:Nat→List (List D),T=fun i=>lx (gW t++(t.aA.map lG).take i) (n+1):=⟨_,rfl⟩
 have hT0:T 0=[[.s vZ,.ol (n+1) []],[.s t.fName,.ol (n+1+1) []],[.s [],.ol (n+1+1+1) (lx (aT t.bE) (n+1+1+1+1))],[.s [],.ol (n+1+1+1+dz (bR (aT t.bE))) (lx (aT [ku]) (n+1+1+1+dz (bR (aT t.bE))+1))]]:=by
  rw[hT];simp only[List.take_zero,List.append_nil,gW,hfl];exact zf _ _ _ _ _
 have fM:∀i,(T i).length≤i+4:=fun i=>by
  rw[hT];simp only[eT,List.length_append]
  have:=List.length_take_le i (t.aA.map lG)
  simp[gW];omega
 have hTs:∀i (hi:i<t.aA.length),T i++[[.s [],.ol (L i) (lx (lG t.aA[i]).aY (L i+1))]]=T (i+1):=fun i hi=>by
  have:=uZ (base:=gW t) (l:=t.aA.map lG) (i:=i) (by rw[List.length_map];exact hi) (n+1)
  rw[List.getElem_map,vg] at this
  rw[hT,hL];exact this
 have hTr:∀i,∀r∈T i,r.length=2:=fun i=>by rw[hT];exact iZ
 have hTe:T t.aA.length=lx (lM t).aY (n+1):=by
  rw[hT];simp only
  rw[List.take_of_length_le (by simp)];rfl
 clear hT hL
 refine mY (n) 1 (rs:=[.cell 2 78]) Tryz.checked.mixed Tryz.func141 Tryz.ntmps141 rfl rfl rfl rfl rfl ?_
 simp -implicitDefEqProofs (disch:=omega) only[go_sem,ha,hs]
 refine W3 ?_
 refine C1 (bY _ (n+1)) ?_
 refine C1 (bY _ (n+1+1)) ?_
 refine C1 (dN t.bE (by omega) (n+1+1+1)) ?_
 refine nH (dN [ku] (by simp) (n+1+1+1+dz (bR (aT t.bE)))) (.cons (Qc n _) .nil) ?_
 refine W1 ?_
 refine W3 ?_
 refine kV n 4 2 (T 0) (.inl ?_) (hTr 0) ?_
 ·rw[hT0];rfl
 refine kY (L 0) ?_
 refine aQ (ι:=Nat) Tryz.checked.mixed rfl [2,4,30,31,32] (fun i=>[.c (.ptr (0,3) 0),.c (.bH (0,4) (T i)),.c (.d (.sl (t.aA.map aS.enc))),.c (.d (.i .i64 t.aA.length)),.c (.d (.i .i64 i))])
  (fun i=>[.seed (L i),.seed 1,.box [.d (.s t.fName),.d (.sl (t.bE.map encS)),.d (.b false),.d (.b true),.d (.sl (t.aA.map aS.enc))],.box [.d (.s []),.bC []],.d9 n 2 (T i)]::S)
  (fun i=>i≤t.aA.length) (fun i=>t.aA.length-i) 0 rfl rfl (Nat.zero_le _) ?_
 intro i hi
 have hl:=fM i
 refine W1 ?_
 refine S0 (fun hb h=>?_) fun hb h=>?_
 ·have hi':i<t.aA.length:=by omega
  have hm:=List.getElem_mem hi'
  have hcz:=tC hm
  have hce:=aS.sum t.aA[i]
  rw[dA] at hce
  obtain⟨q1,q2,q3⟩:=oC (hso _ hm)
  have hst:=hTs i hi'
  refine W3 ?_
  refine C1 (bY _ (L i+1)) ?_
  refine C1 (vJ t.aA[i].aZ (L i+1+1) (L i+1+1+1) q1 (by omega) (fun u hu=>by have:=tu hu;omega)) ?_
  refine C1 (jm _) ?_
  refine C1 (jC t.aA[i].bT (L i+1+1+dz (bR (t.aA[i].aZ.map cB))) q2 (by omega)) ?_
  refine S0 (fun hb h=>?_) fun hb h=>?_
  ·rw[xu h] at hst
   simp only[iA,kC,iy,jk,jl,dJ,cO,iO] at hst
   refine C1 (dN t.aA[i].aF (by omega) (L i+1+1+dz (bR (t.aA[i].aZ.map cB))+dz (cB t.aA[i].bT))) ?_
   refine C1 (uz t.aA[i].fBody (L i+1+1+dz (bR (t.aA[i].aZ.map cB))+dz (cB t.aA[i].bT)+dz (bR (aT t.aA[i].aF))) (q3 h) (by omega)) ?_
   refine W3 ?_
   refine C1 (jm _) ?_
   refine W3 ?_
   rw[hst]
   refine jd (L (i+1)) 4 (by decide) (i+1) (by omega) rfl rfl ?_ rfl (by omega)
   simp[gF,fG,V.refs,C.refs,iV]
  ·rw[xw h] at hst
   simp only[iA,kC,iy,jk,jl,dJ,cO,iO] at hst
   refine C1 (kT _ _) ?_
   refine W3 ?_
   rw[hst]
   refine jd (L (i+1)) 4 (by decide) (i+1) (by omega) rfl rfl ?_ rfl (by omega)
   simp[gF,fG,V.refs,C.refs,iV]
 ·have hi':i=t.aA.length:=by omega
  refine dR rfl (iT 0 4 _ _) ?_
  refine W1 ?_
  rw[hi',hTe]
theorem Pj(t:bg)(n:Nat)(hv:dH t=true)(hsz:t.sz≤1048576)(ha:t.nL=false)(hs:t.bQ=false):aD Tryz.prog 141 [t.v] (.agg [.d (.s []),.d (.ol n (lx (lM t).aY (n+1)))]):=fun S=>by
 have hdz:=bg.sum t
 rw[dA] at hdz
 obtain⟨hso,_⟩:=iU hv
 have hfl:mW t=[]:=by unfold mW;rw[ha,hs];rfl
 obtain⟨L,hL⟩:∃L:Nat→Nat,L=fun i=>n+1+gB (gW t++(t.aA.map lG).take i):=⟨_,rfl⟩
 obtain⟨T,hT⟩:∃T:Nat→List (List D),T=fun i=>lx (gW t++(t.aA.map lG).take i) (n+1):=⟨_,rfl⟩
 have hT0:T 0=[[.s vZ,.ol (n+1) []],[.s t.fName,.ol (n+1+1) []],[.s [],.ol (n+1+1+1) (lx (aT t.bE) (n+1+1+1+1))],[.s [],.ol (n+1+1+1+dz (bR (aT t.bE))) (lx (aT []) (n+1+1+1+dz (bR (aT t.bE))+1))]]:=by
  rw[hT];simp only[List.take_zero,List.append_nil,gW,hfl];exact zf _ _ _ _ _
 have fM:∀i,(T i).length≤i+4:=fun i=>by
  rw[hT];simp only[eT,List.length_append]
  have:=List.length_take_le i (t.aA.map lG)
  simp[gW];omega
 have hTs:∀i (hi:i<t.aA.length),T i++[[.s [],.ol (L i) (lx (lG t.aA[i]).aY (L i+1))]]=T (i+1):=fun i hi=>by
  have:=uZ (base:=gW t) (l:=t.aA.map lG) (i:=i) (by rw[List.length_map];exact hi) (n+1)
  rw[List.getElem_map,vg] at this
  rw[hT,hL];exact this
 have hTr:∀i,∀r∈T i,r.length=2:=fun i=>by rw[hT];exact iZ
 have hTe:T t.aA.length=lx (lM t).aY (n+1):=by
  rw[hT];simp only
  rw[List.take_of_length_le (by simp)];rfl
 clear hT hL
 refine mY (n) 1 (rs:=[.cell 2 78]) Tryz.checked.mixed Tryz.func141 Tryz.ntmps141 rfl rfl rfl rfl rfl ?_
 simp -implicitDefEqProofs (disch:=omega) only[go_sem,ha,hs]
 refine W3 ?_
 refine C1 (bY _ (n+1)) ?_
 refine C1 (bY _ (n+1+1)) ?_
 refine C1 (dN t.bE (by omega) (n+1+1+1)) ?_
 refine nH (dN [] (by simp) (n+1+1+1+dz (bR (aT t.bE)))) (.cons (lg n _) .nil) ?_
 refine W1 ?_
 refine W3 ?_
 refine kV n 4 2 (T 0) (.inl ?_) (hTr 0) ?_
 ·rw[hT0];rfl
 refine kY (L 0) ?_
 refine aQ (ι:=Nat) Tryz.checked.mixed rfl [2,4,30,31,32] (fun i=>[.c (.ptr (0,3) 0),.c (.bH (0,4) (T i)),.c (.d (.sl (t.aA.map aS.enc))),.c (.d (.i .i64 t.aA.length)),.c (.d (.i .i64 i))])
  (fun i=>[.seed (L i),.seed 1,.box [.d (.s t.fName),.d (.sl (t.bE.map encS)),.d (.b false),.d (.b false),.d (.sl (t.aA.map aS.enc))],.box [.d (.s []),.bC []],.d9 n 2 (T i)]::S)
  (fun i=>i≤t.aA.length) (fun i=>t.aA.length-i) 0 rfl rfl (Nat.zero_le _) ?_
 intro i hi
 have hl:=fM i
 refine W1 ?_
 refine S0 (fun hb h=>?_) fun hb h=>?_
 ·have hi':i<t.aA.length:=by omega
  have hm:=List.getElem_mem hi'
  have hcz:=tC hm
  have hce:=aS.sum t.aA[i]
  rw[dA] at hce
  obtain⟨q1,q2,q3⟩:=oC (hso _ hm)
  have hst:=hTs i hi'
  refine W3 ?_
  refine C1 (bY _ (L i+1)) ?_
  refine C1 (vJ t.aA[i].aZ (L i+1+1) (L i+1+1+1) q1 (by omega) (fun u hu=>by have:=tu hu;omega)) ?_
  refine C1 (jm _) ?_
  refine C1 (jC t.aA[i].bT (L i+1+1+dz (bR (t.aA[i].aZ.map cB))) q2 (by omega)) ?_
  refine S0 (fun hb h=>?_) fun hb h=>?_
  ·rw[xu h] at hst
   simp only[iA,kC,iy,jk,jl,dJ,cO,iO] at hst
   refine C1 (dN t.aA[i].aF (by omega) (L i+1+1+dz (bR (t.aA[i].aZ.map cB))+dz (cB t.aA[i].bT))) ?_
   refine C1 (uz t.aA[i].fBody (L i+1+1+dz (bR (t.aA[i].aZ.map cB))+dz (cB t.aA[i].bT)+dz (bR (aT t.aA[i].aF))) (q3 h) (by omega)) ?_
   refine W3 ?_
   refine C1 (jm _) ?_
   refine W3 ?_
   rw[hst]
   refine jd (L (i+1)) 4 (by decide) (i+1) (by omega) rfl rfl ?_ rfl (by omega)
   simp[gF,fG,V.refs,C.refs,iV]
  ·rw[xw h] at hst
   simp only[iA,kC,iy,jk,jl,dJ,cO,iO] at hst
   refine C1 (kT _ _) ?_
   refine W3 ?_
   rw[hst]
   refine jd (L (i+1)) 4 (by decide) (i+1) (by omega) rfl rfl ?_ rfl (by omega)
   simp[gF,fG,V.refs,C.refs,iV]
 ·have hi':i=t.aA.length:=by omega
  refine dR rfl (iT 0 4 _ _) ?_
  refine W1 ?_
  rw[hi',hTe]
theorem Bj(t:bg)(n:Nat)(hv:dH t=true)(hsz:t.sz≤1048576):aD Tryz.prog 141 [t.v] (.agg [.d (.s []),.d (.ol n (lx (lM t).aY (n+1)))]):=by
 have hb:=(iU hv).2
 cases ha:t.nL with
 |true=>
  cases hs:t.bQ with
  |true=>exact absurd ⟨ha,hs⟩ hb
  |false=>exact Pg t n hv hsz ha hs
 |false=>
  cases hs:t.bQ with
  |true=>exact Ph t n hv hsz ha hs
  |false=>exact Pj t n hv hsz ha hs
theorem X6(t:bg)(hv:dH t=true)(hsz:t.sz≤1048576)(ha:t.nL=true)(hs:t.bQ=false):aD Tryz.prog 130 [t.v] (oZ (lM t)).v:=fun S=>by
 have hdz:=bg.sum t
 rw[dA] at hdz
 obtain⟨hso,_⟩:=iU hv
 have hz:=Dj hv
 have hfl:mW t=[wY]:=by unfold mW;rw[ha,hs];rfl
 obtain⟨T,hT⟩:∃T:Nat→List (List D),T=fun i=>(gW t++(t.aA.map lG).take i).map aj.enc:=⟨_,rfl⟩
 have hT0:T 0=[[.s vZ,.sl []],[.s t.fName,.sl []],[.s [],.sl ((aT t.bE).map aj.enc)],[.s [],.sl ((aT [wY]).map aj.enc)]]:=by
  rw[hT];simp only[List.take_zero,List.append_nil,gW,hfl,List.map_cons,List.map_nil,dX,iq]
 have fM:∀i,(T i).length≤i+4:=fun i=>by
  rw[hT];simp only[List.length_map,List.length_append]
  have:=List.length_take_le i (t.aA.map lG)
  simp[gW];omega
 have hTs:∀i (hi:i<t.aA.length),T i++[[.s [],.sl ((lG t.aA[i]).aY.map aj.enc)]]=T (i+1):=fun i hi=>by
  have:=gQ (base:=gW t) (l:=t.aA.map lG) (i:=i) (by rw[List.length_map];exact hi)
  rw[List.getElem_map,vg] at this
  rw[hT];exact this
 have hTr:∀i,∀r∈T i,r.length=2:=fun i=>by rw[hT];exact jg
 have hTe:T t.aA.length=(lM t).aY.map aj.enc:=by
  rw[hT];simp only
  rw[List.take_of_length_le (by simp)];rfl
 clear hT
 refine aB (rs:=[.cell 2 78]) Tryz.checked.mixed Tryz.func130 Tryz.ntmps130 rfl rfl rfl rfl rfl ?_
 refine W1 ?_
 refine bN (mV t (by omega)) ?_
 simp -implicitDefEqProofs (disch:=omega) only[go_sem,hv,ha,hs]
 refine W3 ?_
 refine C1 (bJ _) ?_
 refine C1 (bJ _) ?_
 refine C1 (dG t.bE (by omega)) ?_
 refine C1 (dG [wY] (by simp)) ?_
 have hE:=fun bM Ω=>iJ (T 0) (hTr 0) (by have:=fM 0;omega) bM Ω
 simp only[hT0] at hE
 refine kN [false] rfl (hE _ _) ?_
 refine W1 ?_
 refine aQ (ι:=Nat) Tryz.checked.mixed rfl [1,2,4,5] (fun i=>[.c (.ptr (0,0) 0),.c (.ptr (0,1) 0),.c (.ptr (0,5) 0),.c (.d (.i .i64 i))])
  (fun i=>[.box [.d (.s t.fName),.d (.sl (t.bE.map encS)),.d (.b true),.d (.b false),.d (.sl (t.aA.map aS.enc))],.box [.d (.s []),.bC []],.tok 1 [[.s wY]],.box [.d (.s []),.bH (0,4) (T 0)],.tok 2 (T i),.box [.d (.s []),.bH (0,4) (T i)]]::S)
  (fun i=>i≤t.aA.length) (fun i=>t.aA.length-i) 0 rfl (by simp only[hT0]<;>(try rfl)) (Nat.zero_le _) ?_
 intro i hi
 have hl:=fM i
 refine W1 ?_
 refine S0 (fun hb h=>?_) fun hb h=>?_
 ·have hi':i<t.aA.length:=by omega
  have hm:=List.getElem_mem hi'
  have hcz:=tC hm
  have hce:=aS.sum t.aA[i]
  rw[dA] at hce
  obtain⟨q1,q2,q3⟩:=oC (hso _ hm)
  have hst:=hTs i hi'
  refine W3 ?_
  refine C1 (bJ _) ?_
  refine C1 (wX t.aA[i].aZ (by omega) (fun u hu=>by have:=tu hu;omega)) ?_
  refine C1 (jN t.aA[i].bT (by omega)) ?_
  refine kN [false] rfl (iJ _ (by simp) (by simp) _ _) ?_
  refine W1 ?_
  refine S0 (fun hb h=>?_) fun hb h=>?_
  ·rw[xu h] at hst
   simp only[List.map_cons,List.map_nil,dX,iq,aj.aH (cB t.aA[i].bT),aj.aH (eG t.aA[i].fBody)] at hst
   refine C1 (dG t.aA[i].aF (by omega)) ?_
   refine C1 (o8 t.aA[i].fBody (q3 h) (by omega)) ?_
   refine W3 ?_
   rw[hst]
   exact cu 6 (by decide) (i+1) (by omega) rfl rfl rfl rfl (by omega)
  ·rw[xw h] at hst
   simp only[List.map_cons,List.map_nil,dX,iq,aj.aH (cB t.aA[i].bT)] at hst
   refine W3 ?_
   rw[hst]
   exact cu 6 (by decide) (i+1) (by omega) rfl rfl rfl rfl (by omega)
 ·have hi':i=t.aA.length:=by omega
  subst hi'
  rw[hTe]
  refine C1 (ni true (lM t) (by omega)) ?_
  rfl
theorem X7(t:bg)(hv:dH t=true)(hsz:t.sz≤1048576)(ha:t.nL=false)(hs:t.bQ=true):aD Tryz.prog 130 [t.v] (oZ (lM t)).v:=fun S=>by
 have hdz:=bg.sum t
 rw[dA] at hdz
 obtain⟨hso,_⟩:=iU hv
 have hz:=Dj hv
 have hfl:mW t=[ku]:=by unfold mW;rw[ha,hs];rfl
 obtain⟨T,hT⟩:∃T:Nat→List (List D),T=fun i=>(gW t++(t.aA.map lG).take i).map aj.enc:=⟨_,rfl⟩
 have hT0:T 0=[[.s vZ,.sl []],[.s t.fName,.sl []],[.s [],.sl ((aT t.bE).map aj.enc)],[.s [],.sl ((aT [ku]).map aj.enc)]]:=by
  rw[hT];simp only[List.take_zero,List.append_nil,gW,hfl,List.map_cons,List.map_nil,dX,iq]
 have fM:∀i,(T i).length≤i+4:=fun i=>by
  rw[hT];simp only[List.length_map,List.length_append]
  have:=List.length_take_le i (t.aA.map lG)
  simp[gW];omega
 have hTs:∀i (hi:i<t.aA.length),T i++[[.s [],.sl ((lG t.aA[i]).aY.map aj.enc)]]=T (i+1):=fun i hi=>by
  have:=gQ (base:=gW t) (l:=t.aA.map lG) (i:=i) (by rw[List.length_map];exact hi)
  rw[List.getElem_map,vg] at this
  rw[hT];exact this
 have hTr:∀i,∀r∈T i,r.length=2:=fun i=>by rw[hT];exact jg
 have hTe:T t.aA.length=(lM t).aY.map aj.enc:=by
  rw[hT];simp only
  rw[List.take_of_length_le (by simp)];rfl
 clear hT
 refine aB (rs:=[.cell 2 78]) Tryz.checked.mixed Tryz.func130 Tryz.ntmps130 rfl rfl rfl rfl rfl ?_
 refine W1 ?_
 refine bN (mV t (by omega)) ?_
 simp -implicitDefEqProofs (disch:=omega) only[go_sem,hv,ha,hs]
 refine W3 ?_
 refine C1 (bJ _) ?_
 refine C1 (bJ _) ?_
 refine C1 (dG t.bE (by omega)) ?_
 refine C1 (dG [ku] (by simp)) ?_
 have hE:=fun bM Ω=>iJ (T 0) (hTr 0) (by have:=fM 0;omega) bM Ω
 simp only[hT0] at hE
 refine kN [false] rfl (hE _ _) ?_
 refine W1 ?_
 refine aQ (ι:=Nat) Tryz.checked.mixed rfl [1,2,4,5] (fun i=>[.c (.ptr (0,0) 0),.c (.ptr (0,1) 0),.c (.ptr (0,5) 0),.c (.d (.i .i64 i))])
  (fun i=>[.box [.d (.s t.fName),.d (.sl (t.bE.map encS)),.d (.b false),.d (.b true),.d (.sl (t.aA.map aS.enc))],.box [.d (.s []),.bC []],.tok 1 [[.s ku]],.box [.d (.s []),.bH (0,4) (T 0)],.tok 2 (T i),.box [.d (.s []),.bH (0,4) (T i)]]::S)
  (fun i=>i≤t.aA.length) (fun i=>t.aA.length-i) 0 rfl (by simp only[hT0]<;>(try rfl)) (Nat.zero_le _) ?_
 intro i hi
 have hl:=fM i
 refine W1 ?_
 refine S0 (fun hb h=>?_) fun hb h=>?_
 ·have hi':i<t.aA.length:=by omega
  have hm:=List.getElem_mem hi'
  have hcz:=tC hm
  have hce:=aS.sum t.aA[i]
  rw[dA] at hce
  obtain⟨q1,q2,q3⟩:=oC (hso _ hm)
  have hst:=hTs i hi'
  refine W3 ?_
  refine C1 (bJ _) ?_
  refine C1 (wX t.aA[i].aZ (by omega) (fun u hu=>by have:=tu hu;omega)) ?_
  refine C1 (jN t.aA[i].bT (by omega)) ?_
  refine kN [false] rfl (iJ _ (by simp) (by simp) _ _) ?_
  refine W1 ?_
  refine S0 (fun hb h=>?_) fun hb h=>?_
  ·rw[xu h] at hst
   simp only[List.map_cons,List.map_nil,dX,iq,aj.aH (cB t.aA[i].bT),aj.aH (eG t.aA[i].fBody)] at hst
   refine C1 (dG t.aA[i].aF (by omega)) ?_
   refine C1 (o8 t.aA[i].fBody (q3 h) (by omega)) ?_
   refine W3 ?_
   rw[hst]
   exact cu 6 (by decide) (i+1) (by omega) rfl rfl rfl rfl (by omega)
  ·rw[xw h] at hst
   simp only[List.map_cons,List.map_nil,dX,iq,aj.aH (cB t.aA[i].bT)] at hst
   refine W3 ?_
   rw[hst]
   exact cu 6 (by decide) (i+1) (by omega) rfl rfl rfl rfl (by omega)
 ·have hi':i=t.aA.length:=by omega
  subst hi'
  rw[hTe]
  refine C1 (ni true (lM t) (by omega)) ?_
  rfl
theorem X8(t:bg)(hv:dH t=true)(hsz:t.sz≤1048576)(ha:t.nL=false)(hs:t.bQ=false):aD Tryz.prog 130 [t.v] (oZ (lM t)).v:=fun S=>by
 have hdz:=bg.sum t
 rw[dA] at hdz
 obtain⟨hso,_⟩:=iU hv
 have hz:=Dj hv
 have hfl:mW t=[]:=by unfold mW;rw[ha,hs];rfl
 obtain⟨T,hT⟩:∃T:Nat→List (List D),T=fun i=>(gW t++(t.aA.map lG).take i).map aj.enc:=⟨_,rfl⟩
 have hT0:T 0=[[.s vZ,.sl []],[.s t.fName,.sl []],[.s [],.sl ((aT t.bE).map aj.enc)],[.s [],.sl ((aT []).map aj.enc)]]:=by
  rw[hT];simp only[List.take_zero,List.append_nil,gW,hfl,List.map_cons,List.map_nil,dX,iq]
 have fM:∀i,(T i).length≤i+4:=fun i=>by
  rw[hT];simp only[List.length_map,List.length_append]
  have:=List.length_take_le i (t.aA.map lG)
  simp[gW];omega
 have hTs:∀i (hi:i<t.aA.length),T i++[[.s [],.sl ((lG t.aA[i]).aY.map aj.enc)]]=T (i+1):=fun i hi=>by
  have:=gQ (base:=gW t) (l:=t.aA.map lG) (i:=i) (by rw[List.length_map];exact hi)
  rw[List.getElem_map,vg] at this
  rw[hT];exact this
 have hTr:∀i,∀r∈T i,r.length=2:=fun i=>by rw[hT];exact jg
 have hTe:T t.aA.length=(lM t).aY.map aj.enc:=by
  rw[hT];simp only
  rw[List.take_of_length_le (by simp)];rfl
 clear hT
 refine aB (rs:=[.cell 2 78]) Tryz.checked.mixed Tryz.func130 Tryz.ntmps130 rfl rfl rfl rfl rfl ?_
 refine W1 ?_
 refine bN (mV t (by omega)) ?_
 simp -implicitDefEqProofs (disch:=omega) only[go_sem,hv,ha,hs]
 refine W3 ?_
 refine C1 (bJ _) ?_
 refine C1 (bJ _) ?_
 refine C1 (dG t.bE (by omega)) ?_
 refine C1 (dG [] (by simp)) ?_
 have hE:=fun bM Ω=>iJ (T 0) (hTr 0) (by have:=fM 0;omega) bM Ω
 simp only[hT0] at hE
 refine kN [false] rfl (hE _ _) ?_
 refine W1 ?_
 refine aQ (ι:=Nat) Tryz.checked.mixed rfl [1,2,4,5] (fun i=>[.c (.ptr (0,0) 0),.c (.ptr (0,1) 0),.c (.ptr (0,4) 0),.c (.d (.i .i64 i))])
  (fun i=>[.box [.d (.s t.fName),.d (.sl (t.bE.map encS)),.d (.b false),.d (.b false),.d (.sl (t.aA.map aS.enc))],.box [.d (.s []),.bC []],.box [.d (.s []),.bH (0,3) (T 0)],.tok 2 (T i),.box [.d (.s []),.bH (0,3) (T i)]]::S)
  (fun i=>i≤t.aA.length) (fun i=>t.aA.length-i) 0 rfl (by simp only[hT0]<;>(try rfl)) (Nat.zero_le _) ?_
 intro i hi
 have hl:=fM i
 refine W1 ?_
 refine S0 (fun hb h=>?_) fun hb h=>?_
 ·have hi':i<t.aA.length:=by omega
  have hm:=List.getElem_mem hi'
  have hcz:=tC hm
  have hce:=aS.sum t.aA[i]
  rw[dA] at hce
  obtain⟨q1,q2,q3⟩:=oC (hso _ hm)
  have hst:=hTs i hi'
  refine W3 ?_
  refine C1 (bJ _) ?_
  refine C1 (wX t.aA[i].aZ (by omega) (fun u hu=>by have:=tu hu;omega)) ?_
  refine C1 (jN t.aA[i].bT (by omega)) ?_
  refine kN [false] rfl (iJ _ (by simp) (by simp) _ _) ?_
  refine W1 ?_
  refine S0 (fun hb h=>?_) fun hb h=>?_
  ·rw[xu h] at hst
   simp only[List.map_cons,List.map_nil,dX,iq,aj.aH (cB t.aA[i].bT),aj.aH (eG t.aA[i].fBody)] at hst
   refine C1 (dG t.aA[i].aF (by omega)) ?_
   refine C1 (o8 t.aA[i].fBody (q3 h) (by omega)) ?_
   refine W3 ?_
   rw[hst]
   exact cu 5 (by decide) (i+1) (by omega) rfl rfl rfl rfl (by omega)
  ·rw[xw h] at hst
   simp only[List.map_cons,List.map_nil,dX,iq,aj.aH (cB t.aA[i].bT)] at hst
   refine W3 ?_
   rw[hst]
   exact cu 5 (by decide) (i+1) (by omega) rfl rfl rfl rfl (by omega)
 ·have hi':i=t.aA.length:=by omega
  subst hi'
  rw[hTe]
  refine C1 (ni true (lM t) (by omega)) ?_
  rfl
theorem JW(t:bg)(hsz:t.sz≤1048576):aD Tryz.prog 130 [t.v] (rY t).v:=by
 unfold rY
 cases hv:dH t with
 |false=>
  rw[qV]
  refine aD.less (fun S=> ?_) (u6 [] [])
  refine aB (rs:=[.cell 2 78]) Tryz.checked.mixed Tryz.func130 Tryz.ntmps130 rfl rfl rfl rfl rfl ?_
  refine W1 ?_
  refine bN (mV t (by omega)) ?_
  simp -implicitDefEqProofs (disch:=omega) only[go_sem,hv]
 |true=>
  rw[qV]
  have hb:=(iU hv).2
  cases ha:t.nL with
  |true=>
   cases hs:t.bQ with
   |true=>exact absurd ⟨ha,hs⟩ hb
   |false=>exact X6 t hv hsz ha hs
  |false=>
   cases hs:t.bQ with
   |true=>exact X7 t hv hsz ha hs
   |false=>exact X8 t hv hsz ha hs
end Go.Proofs.YtcfhnaohbaplhaaGreatDoor
namespace Go.Ab
noncomputable def kD(m:bB):Bool:=dec (1≤m.aF.length)&&(dec (m.aF.length≤5)&&nJ m.aF m.fBody)
noncomputable def jP(x:aP):List (List UInt8):=x.aL.map bB.fName
noncomputable def rz(x:aP):Bool:=validName x.bI&&(dec (x.aF.length≤3)&&(gP x.aF&&(fE x.aF x.bU&&(!nP x.bU&&(dec (x.bU.aU=2∨x.bU.aU=1)&&(among x.aF (iw [] x.bU)&&(mP x.aF x.bX&&((if x.fq=true then fE x.aF x.bQ else dec (uj x.bQ))&&dec (x.aL.length≤6)))))))))
noncomputable def eu(x:aP):Bool:=rz x&&(x.aL.all kD&&gP (jP x))
theorem aP.sum(x:aP):x.bI.length+(x.aF.length+aI (x.aF.map encS))+x.bU.sz+(x.bX.length+aI (x.bX.map bA.enc))+x.bQ.sz+(x.aL.length+aI (x.aL.map bB.enc))≤x.sz:=by
 simp only[aP.sz,aP.aH,bL,bf,D.sz,List.length_map,ah.dn]
 omega
theorem bB.sum(x:bB):x.fName.length+(x.aF.length+aI (x.aF.map encS))+x.fBody.sz≤x.sz:=by
 simp only[bB.sz,bB.aH,bL,bf,D.sz,List.length_map,au.dn]
 omega
theorem vk{xs:List bB}{t:bB}(h:t∈xs):t.sz≤aI (xs.map bB.enc):=bD (List.mem_map_of_mem h)
theorem JX(v:List UInt8):∀(us:List ah) (out:List (List UInt8)),v∈us.foldl qE out↔v∈out∨0<us.countP (FM v)
 |[],out=>by simp
 |u::us,out=>by
  rw[List.foldl_cons,JX v us,List.countP_cons]
  have h:v∈qE out u↔v∈out∨FM v u=true:=by
   unfold qE FM
   split
   ·rename_i h
    simp only[List.mem_append,List.mem_singleton]
    constructor
    ·rintro(h1|h1)
     ·exact .inl h1
     ·right;simp[h1,h.1]
    ·rintro(h1|h1)
     ·exact .inl h1
     ·right;simp at h1;exact h1.2.symm
   ·rename_i h
    constructor
    ·exact .inl
    ·rintro(h1|h1)
     ·exact h1
     ·simp at h1
      by_cases e:u.fName∈out
      ·rw[←h1.2];exact e
      ·exact absurd ⟨h1.1,e⟩ h
  rw[h]
  cases FM v u<;>simp
theorem SG(v:List UInt8)(t:ah):occurs v t=dec (v∈iw [] t):=by
 unfold occurs iw nE
 rw[lU]
 exact gN (by rw[JX];simp)
theorem SH{t:ah}(h:kZ t=true):t.aU=1∨t.aU=2∨t.aU=3∨t.aU=4:=by
 have h1:=(iN h).1
 rw[sO,Bool.and_eq_true] at h1
 have h2:=iN h1.1
 omega
theorem Vv{t:ah}(h:nP t=false):t.aU≠3:=by
 rw[Ak] at h
 intro e
 simp[e] at h
end Go.Ab
namespace Go.Proofs.YtcfhnaohbaplhaaGreatDoor
open Go Go.Ab
set_option maxHeartbeats 2000000 in
theorem EN(x:aP)(hsz:x.sz≤4194304):aD Tryz.prog 174 [x.v] (.c (.d (.b (eu x)))):=fun S=>by
 have hs:=aP.sum x
 have hV:∀s∈x.aF,s.length≤4194304:=fun s h=>by have:=nX h;omega
 have hW:∀b∈x.bX,b.sz≤4194304:=fun b h=>by have:=mJ h;omega
 have hM:∀m∈x.aL,m.sz≤4194304:=fun m h=>by have:=vk h;omega
 have no:rz x=false→V.c (.d (.b false))=V.c (.d (.b (eu x))):=fun h=>ay (by unfold eu;rw[h];rfl)
 refine(show Hold (rz x=true→ ?T)→_ from fun tail=> ?main) ?tp
 case' main=>
  refine aB (rs:=[.tmp 2]) Tryz.checked.mixed Tryz.func174 Tryz.ntmps174 rfl rfl rfl rfl rfl ?_
  refine W1 ?_
  repeat' (first
   |refine S0 (fun hb h=>?_) fun hb h=>?_
   |((with_reducible show dW _ _ 168 _ _ _ _);refine bN (fP x.bI (by omega)) ?_;refine W1 ?_)
   |((with_reducible show dW _ _ 169 _ _ _ _);refine bN (lV x.aF (by omega) hV) ?_;refine W1 ?_)
   |((with_reducible show dW _ _ 261 _ _ _ _);refine bN (qb x.bU x.aF (by omega) (by omega)) ?_;refine W1 ?_)
   |((with_reducible show dW _ _ 261 _ _ _ _);refine bN (qb x.bQ x.aF (by omega) (by omega)) ?_;refine W1 ?_)
   |((with_reducible show dW _ _ 262 _ _ _ _);refine bN (zC x.bU (by omega)) ?_;refine W1 ?_)
   |((with_reducible show dW _ _ 264 _ _ _ _);refine bN (tZ x.bU (by omega)) ?_;refine W1 ?_)
   |((with_reducible show dW _ _ 263 _ _ _ _);refine bN (vH x.aF (iw [] x.bU) (by omega) (GV _ (by omega))) ?_;refine W1 ?_)
   |((with_reducible show dW _ _ 265 _ _ _ _);refine bN (Cz x.bX x.aF (by omega) hW (by omega)) ?_;refine W1 ?_)
   |((with_reducible show dW _ _ 266 _ _ _ _);refine bN (Bf x.bQ) ?_;refine W1 ?_)
   |(refine no ?_;unfold rz;grind [iN,iH,bq,aC]))
  all_goals
   have hh:rz x=true:=by unfold rz;grind [iN,iH,bq,aC]
   refine W3 ?_
   refine nD 3 1 [] rfl (by simp) ?_
   refine oz (st':=[.box (x.enc.map .d),.tok 1 []]::S) [3,91,92,93] [.c (.bH (0,1) []),.c (.d (.sl (x.aL.map bB.enc))),.c (.d (.i .i64 x.aL.length)),.c (.d (.i .i64 0))] ?_ ?_ ?_
   ·rfl
   ·first|(refine W1 ?_;done)|(refine W1 ?_;simp[*])
   ·exact tail.out hh
 refine⟨fun hh=> ?_⟩
 have bad:∀i,∀hi:i<x.aL.length,kD x.aL[i]=false→V.c (.d (.b false))=V.c (.d (.b (eu x))):=fun i hi h=>by
  have:x.aL.all kD=false:=Bool.eq_false_iff.2 fun hx=>by
   rw[List.all_eq_true.1 hx _ (List.getElem_mem hi)] at h;cases h
  unfold eu
  rw[this];simp
 refine aQ (ι:=Nat×List (List UInt8)) Tryz.checked.mixed rfl [3,91,92,93] (fun y=>[.c (.bH (0,1) (y.2.map encS)),.c (.d (.sl (x.aL.map bB.enc))),.c (.d (.i .i64 x.aL.length)),.c (.d (.i .i64 y.1))]) (fun y=>[.box (x.enc.map .d),.tok 1 (y.2.map encS)]::S)
  (fun y=>y.1≤x.aL.length∧y.2=(jP x).take y.1∧∀j,∀hj:j<x.aL.length,j<y.1→kD x.aL[j]=true) (fun y=>x.aL.length-y.1) (0,[]) rfl ?_ ⟨Nat.zero_le _,rfl,fun j _ h=>by simp only at h;omega⟩ ?_
 ·exact Z1
 rintro⟨i,names⟩ ⟨p1,p2,p3⟩
 simp only at p1 p2 p3
 have pl:names.length≤x.aL.length:=by rw[p2];simp[jP];omega
 refine W1 ?_
 refine S0 (fun hb h=>?_) fun hb h=>?_
 ·have hi:i<x.aL.length:=by omega
  have hm:=hM _ (List.getElem_mem hi)
  have hms:=bB.sum x.aL[i]
  have hmv:∀s∈x.aL[i].aF,s.length≤4194304:=fun s h=>by have:=nX h;omega
  refine W3 ?_
  refine S0 (fun hb h=>?_) fun hb h=>?_
  ·exact bad i hi (by unfold kD;rw[aC (by omega)];rfl)
  refine W3 ?_
  refine S0 (fun hb h=>?_) fun hb h=>?_
  ·exact bad i hi (by unfold kD;rw[aC (show ¬x.aL[i].aF.length≤5 by omega)];simp)
  refine W3 ?_
  refine C2 (Cy x.aL[i].aF x.aL[i].fBody (by omega) hmv (by omega)) ?_
  refine S0 (fun hb h=>?_) fun hb h=>?_
  ·exact bad i hi (by unfold kD;rw[h];simp)
  have k2:=h
  have k3:kD x.aL[i]=true:=by unfold kD;rw[k2,bq (by omega),bq (by omega)];rfl
  refine W3 ?_
  rw[show List.map encS names++[[D.s x.aL[i].fName]]=List.map encS (names++[x.aL[i].fName]) by simp[encS]]
  exact cu 2 (by decide) (i+1,names++[x.aL[i].fName]) (by simp only;omega) rfl rfl rfl rfl ⟨by simp only;omega,by simp only;rw[p2,gG (by simpa [jP] using hi)];simp[jP],fun j hj hji=>by
   simp only at hji
   by_cases e:j=i
   ·subst e;exact k3
   ·exact p3 j hj (by omega)⟩
 have hi:i=x.aL.length:=by omega
 have hn:names=jP x:=by rw[p2,List.take_of_length_le (by simp[jP];omega)]
 have hall:x.aL.all kD=true:=List.all_eq_true.2 fun c hc=>by
  obtain⟨j,hj,e⟩:=List.getElem_of_mem hc
  rw[←e];exact p3 j hj (by omega)
 have hnl:∀s∈names,s.length≤4194304:=fun s hm=>by
  rw[hn] at hm
  obtain⟨g,hg,e⟩:=List.mem_map.1 hm
  have:=hM g hg
  have:=bB.sum g
  rw[←e];omega
 refine C2 (lV names (by omega) hnl) ?_
 exact ay (by unfold eu;rw[hh,hall,hn];rfl)
set_option maxHeartbeats 2000000 in
theorem lN(x:aP)(hsz:x.sz≤4194304):aD Tryz.prog 220 [x.v] (.c (.d (.b (eu x)))):=fun S=>by
 have hs:=aP.sum x
 have hV:∀s∈x.aF,s.length≤4194304:=fun s h=>by have:=nX h;omega
 have hW:∀b∈x.bX,b.sz≤4194304:=fun b h=>by have:=mJ h;omega
 have hM:∀m∈x.aL,m.sz≤4194304:=fun m h=>by have:=vk h;omega
 have bad:x.aL.all kD=false→V.c (.d (.b false))=V.c (.d (.b (eu x))):=fun h=>ay (by unfold eu;rw[h];simp)
 have no:rz x=false→V.c (.d (.b false))=V.c (.d (.b (eu x))):=fun h=>ay (by unfold eu;rw[h];rfl)
 have hk:fE x.aF x.bU=true→nP x.bU=false→(x.bU.aU=1∨x.bU.aU=2∨x.bU.aU=4):=fun h1 h2=>by
  unfold fE at h1
  rw[Bool.and_eq_true] at h1
  have:=SH h1.1
  have:=Vv h2
  omega
 refine aB (rs:=[.tmp 2]) Tryz.checked.mixed Tryz.func220 Tryz.ntmps220 rfl rfl rfl rfl rfl ?_
 refine W1 ?_
 repeat' (first
  |refine S0 (fun hb h=>?_) fun hb h=>?_
  |((with_reducible show dW _ _ 159 _ _ _ _);refine bN (fQ x.bI (by omega)) ?_;refine W1 ?_)
  |((with_reducible show dW _ _ 160 _ _ _ _);refine bN (jV x.aF 3 (by omega) hV) ?_;refine W1 ?_)
  |((with_reducible show dW _ _ 303 _ _ _ _);refine bN (pQ x.bU x.aF (by omega) (by omega)) ?_;refine W1 ?_)
  |((with_reducible show dW _ _ 304 _ _ _ _);refine bN (zB x.bU (by omega)) ?_;refine W1 ?_)
  |((with_reducible show dW _ _ 305 _ _ _ _);refine bN (D6 x.bX x.aF (by omega) hW (by omega)) ?_;refine W1 ?_)
  |(refine no ?_;unfold rz;grind [iN,iH,bq,aC]))
 all_goals
  have h1:validName x.bI=true:=by assumption
  have h2:(dec ((x.aF.length:Int)≤3)&&gP x.aF)=true:=by assumption
  have h3:fE x.aF x.bU=true:=by assumption
  have h4:nP x.bU=false:=by assumption
  have h5:¬x.bU.aU=4:=by assumption
  have h6:mP x.aF x.bX=true:=by assumption
 have h7:=hk h3 h4
 clear hk
 rw[Bool.and_eq_true] at h2
 have h8:=iN h2.1
 have pre:rz x=(among x.aF (iw [] x.bU)&&((if x.fq=true then fE x.aF x.bQ else dec (uj x.bQ))&&dec (x.aL.length≤6))):=by
  unfold rz
  rw[h1,h2.2,h3,h4,h6,bq (show x.aF.length≤3 by omega),bq (show x.bU.aU=2∨x.bU.aU=1 by omega)]
  simp
 clear h1 h2 h3 h4 h5 h6 h7 h8
 refine aQ (ι:=Nat) Tryz.checked.mixed rfl [1,3] (fun i=>[.c (.ptr (0,0) 0),.c (.d (.i .i64 i))]) (fun _=>[.box (x.enc.map .d)]::S)
  (fun i=>i≤x.aF.length∧among (x.aF.drop i) (iw [] x.bU)=among x.aF (iw [] x.bU)) (fun i=>x.aF.length-i) 0 rfl ?_ ⟨Nat.zero_le _,rfl⟩ ?_
 ·exact Z1
 rintro i ⟨p1,p2⟩
 simp -implicitDefEqProofs (disch:=omega) only[go_sem,encS]
 with_reducible refine eX (fun hb=> ?_) (fun hb=> ?_)<;>have h:=hb<;>(try simp only[wf_preprocess] at h)<;>simp -implicitDefEqProofs (disch:=omega) only[go_sem,hb,encS]<;>refine W3 ?_
 ·have hi:i<x.aF.length:=by omega
  rw[List.drop_eq_getElem_cons hi] at p2
  have p3:among x.aF (iw [] x.bU)=(dec (x.aF[i]∈iw [] x.bU)&&among (x.aF.drop (i+1)) (iw [] x.bU)):=p2.symm
  refine W3 ?_
  refine C2 (Kz x.aF[i] x.bU (by omega)) ?_
  rw[SG]
  refine S0 (fun hb h=>?_) fun hb h=>?_
  ·exact no (by rw[pre,p3,aC h];rfl)
  ·exact bF (i+1) (by omega) rfl rfl ⟨by omega,by rw[p3,bq h];rfl⟩
 rw[List.drop_of_length_le (by omega)] at p2
 have p3:among x.aF (iw [] x.bU)=true:=p2.symm
 rw[p3,Bool.true_and] at pre
 refine(show Hold ((if x.fq=true then fE x.aF x.bQ else dec (uj x.bQ))=true→ ?T)→_ from fun tail=> ?main) ?tp
 case' main=>
  repeat' (first
   |refine S0 (fun hb h=>?_) fun hb h=>?_
   |((with_reducible show dW _ _ 303 _ _ _ _);refine bN (pQ x.bQ x.aF (by omega) (by omega)) ?_;refine W1 ?_)
   |((with_reducible show dW _ _ 284 _ _ _ _);refine bN (GK x.bQ) ?_;refine W1 ?_)
   |(refine no ?_;rw[pre];grind [iN,iH,bq,aC]))
  all_goals
   have hh:(if x.fq=true then fE x.aF x.bQ else dec (uj x.bQ))=true:=by grind [iN,iH,bq,aC]
   refine W3 ?_
   refine nD 4 1 [] rfl (by simp) ?_
   refine oz (st':=[.box (x.enc.map .d),.tok 1 []]::S) [1,4,5] [.c (.ptr (0,0) 0),.c (.bH (0,1) []),.c (.d (.i .i64 0))] ?_ ?_ ?_
   ·rfl
   ·first|(refine W1 ?_;done)|(refine W1 ?_;simp[*])
   ·exact tail.out hh
 refine⟨fun hh=> ?_⟩
 rw[hh,Bool.true_and] at pre
 clear p2 p3 p1 hh no
 have X9:∀i,∀hi:i<x.aL.length,kD x.aL[i]=false→V.c (.d (.b false))=V.c (.d (.b (eu x))):=fun i hi h=>bad (Bool.eq_false_iff.2 fun hx=>by
  rw[List.all_eq_true.1 hx _ (List.getElem_mem hi)] at h;cases h)
 refine aQ (ι:=Nat×List (List UInt8)) Tryz.checked.mixed rfl [1,4,5] (fun y=>[.c (.ptr (0,0) 0),.c (.bH (0,1) (y.2.map encS)),.c (.d (.i .i64 y.1))]) (fun y=>[.box (x.enc.map .d),.tok 1 (y.2.map encS)]::S)
  (fun y=>y.1≤x.aL.length∧y.2=(jP x).take y.1∧∀j,∀hj:j<x.aL.length,j<y.1→kD x.aL[j]=true) (fun y=>x.aL.length-y.1) (0,[]) rfl ?_ ⟨Nat.zero_le _,rfl,fun j _ h=>by simp only at h;omega⟩ ?_
 ·exact Z1
 rintro⟨i,names⟩ ⟨p1,p2,p3⟩
 simp only at p1 p2 p3
 have pl:names.length≤x.aL.length:=by rw[p2];simp[jP];omega
 refine W1 ?_
 refine S0 (fun hb h=>?_) fun hb h=>?_
 ·have hi:i<x.aL.length:=by omega
  have hm:=hM _ (List.getElem_mem hi)
  have hms:=bB.sum x.aL[i]
  have hmv:∀s∈x.aL[i].aF,s.length≤4194304:=fun s h=>by have:=nX h;omega
  refine W3 ?_
  refine S0 (fun hb h=>?_) fun hb h=>?_
  ·exact X9 i hi (by unfold kD;rw[aC (by omega)];rfl)
  refine W3 ?_
  refine C2 (jV x.aL[i].aF 5 (by omega) hmv) ?_
  refine S0 (fun hb h=>?_) fun hb h=>?_
  ·refine X9 i hi ?_
   unfold kD nJ
   have:(dec (x.aL[i].aF.length≤5)&&gP x.aL[i].aF)=false:=by
    rw[←h];congr 1;exact gN ⟨fun h=>by omega,fun h=>by omega⟩
   rw[←Bool.and_assoc (dec (x.aL[i].aF.length≤5)),this];simp
  have k1:=h
  rw[Bool.and_eq_true] at k1
  have k4:=iN k1.1
  refine W3 ?_
  refine C2 (AU x.aL[i].aF x.aL[i].fBody (by omega) (by omega)) ?_
  refine S0 (fun hb h=>?_) fun hb h=>?_
  ·exact X9 i hi (by unfold kD nJ;rw[h];simp)
  have k2:=h
  have k3:kD x.aL[i]=true:=by unfold kD nJ;rw[k2,k1.2,bq (by omega),bq (by omega)];rfl
  refine W3 ?_
  rw[show List.map encS names++[[D.s x.aL[i].fName]]=List.map encS (names++[x.aL[i].fName]) by simp[encS]]
  exact cu 2 (by decide) (i+1,names++[x.aL[i].fName]) (by simp only;omega) rfl rfl rfl rfl ⟨by simp only;omega,by simp only;rw[p2,gG (by simpa [jP] using hi)];simp[jP],fun j hj hji=>by
   simp only at hji
   by_cases e:j=i
   ·subst e;exact k3
   ·exact p3 j hj (by omega)⟩
 have hi:i=x.aL.length:=by omega
 have hn:names=jP x:=by rw[p2,List.take_of_length_le (by simp[jP];omega)]
 have hall:x.aL.all kD=true:=List.all_eq_true.2 fun c hc=>by
  obtain⟨j,hj,e⟩:=List.getElem_of_mem hc
  rw[←e];exact p3 j hj (by omega)
 have hnl:∀s∈names,s.length≤4194304:=fun s hm=>by
  rw[hn] at hm
  obtain⟨g,hg,e⟩:=List.mem_map.1 hm
  have:=hM g hg
  have:=bB.sum g
  rw[←e];omega
 have hlen:names.length=x.aL.length:=by rw[hn];simp[jP]
 refine C2 (jV names 6 (by omega) hnl) ?_
 refine ay ?_
 unfold eu
 rw[pre,hall,hn,Bool.true_and]
 congr 1
 rw[←hn,hlen]
 exact gN ⟨fun h=>by omega,fun h=>by omega⟩
end Go.Proofs.YtcfhnaohbaplhaaGreatDoor
namespace Go.Ab
def uM(P:Program)(N:Nat)(g:St→St):Nat→Code→(Exit→St→Prop)→St→Prop
 |0,c,Q,s=>CW P N c Q (g s)
 |k+1,.seq x y,Q,s=>CW P N x (lD (uM P N g k y Q) Q) s
 |_,_,_,_=>False
theorem NC{P:Program}{N:Nat}{g:St→St}{c:Code}{Q:Exit→St→Prop}{s:St}:uM P N g 0 c Q s=CW P N c Q (g s):=by rw[uM]
theorem vo{P:Program}{N k:Nat}{g:St→St}{x y:Code}{Q:Exit→St→Prop}{s:St}:uM P N g (k+1) (.seq x y) Q s=CW P N x (lD (uM P N g k y Q) Q) s:=by rw[uM]
theorem Ya{P:Program}{N:Nat}{g:St→St}{x y:Code}{Q:Exit→St→Prop}{s:St}:uM P N g 5 (.seq x y) Q s=CW P N x (lD (uM P N g 4 y Q) Q) s:=vo
theorem Yb{P:Program}{N:Nat}{g:St→St}{x y:Code}{Q:Exit→St→Prop}{s:St}:uM P N g 4 (.seq x y) Q s=CW P N x (lD (uM P N g 3 y Q) Q) s:=vo
theorem Vw{P:Program}{N:Nat}{g:St→St}{x y:Code}{Q:Exit→St→Prop}{s:St}:uM P N g 3 (.seq x y) Q s=CW P N x (lD (uM P N g 2 y Q) Q) s:=vo
theorem ZU{P:Program}{N:Nat}{g:St→St}{x y:Code}{Q:Exit→St→Prop}{s:St}:uM P N g 2 (.seq x y) Q s=CW P N x (lD (uM P N g 1 y Q) Q) s:=vo
theorem ZV{P:Program}{N:Nat}{g:St→St}{x y:Code}{Q:Exit→St→Prop}{s:St}:uM P N g 1 (.seq x y) Q s=CW P N x (lD (uM P N g 0 y Q) Q) s:=vo
attribute [go_sem] NC Ya Yb Vw ZU ZV
theorem JY{P:Program}{N:Nat}{g:St→St}(hg:∀s,gI N s (g s))(jr:P.follows .mixedOrders=true):∀(k:Nat) (c:Code) (Q:Exit→St→Prop) (s:St),codeOk N c=true→uM P N g k c Q s→AW P N c Q s
 |0,c,Q,s,ok,h=>by
  rw[NC] at h
  exact oo (lK jr c Q _ ok h) (hg s)
 |k+1,.seq x y,Q,s,ok,h=>by
  rw[vo] at h
  simp only[codeOk,Bool.and_eq_true] at ok
  refine Tv (AW.mono (lK jr x _ s ok.1 h) fun e s' h'=> ?_)
  cases e with
  |normal=>exact JY hg jr k y Q s' ok.2 h'
  |_=>exact h'
 |k+1,.region ..,_,_,_,h=>h.elim
 |k+1,.cond ..,_,_,_,h=>h.elim
 |k+1,.block ..,_,_,_,h=>h.elim
 |k+1,.exit ..,_,_,_,h=>h.elim
 |k+1,.ret,_,_,_,h=>h.elim
 |k+1,.skip,_,_,_,h=>h.elim
 |k+1,.loop ..,_,_,_,h=>h.elim
theorem vK{P:Program}{S:Store}{N:Nat}(n k n' pos:Nat){f:FuncId}{fn:Func}{c:Code}{args:List V}{post:V→Store→Prop}{rs:List ResultVar}(jr:P.follows .mixedOrders=true)(hf:P.funcs[f]? =some fn)(hN:fn.ntmps=N)
 (hb:fn.body=some c) (hn:(fn.name== "runtime.NumGoroutine")=false) (hr:fn.results.toList=rs) (hl:Nat.ble args.length N=true) (hok:codeOk N c=true)
 (h:uM P N (yw n') pos c (M7 P n rs post) ⟨nS (args.map (V.up 1)) 0,[.seed n,.seed k]::S⟩):dF P f args S post:=by
 subst hN
 subst hr
 exact vB hf hb hn (Nat.le_of_ble_eq_true hl) (Nb n k (xO (yg n) (JY (zM n') jr pos c _ _ hok h)))
def AX:List UInt8:=[105,110,115,116]
def kU:List UInt8:=[100,101,102,97,117,108,116]
def jG(x:aP):List (List UInt8):=if x.iR=true then [kU] else []
def jX(x:aP):List aj:=if x.fq=true then [cB x.bQ] else []
def mQ(m:bB):aj:=bR [bO m.fName,bR (aT m.aF),eG m.fBody]
def kF(x:aP):List aj:=[bO AX,bO x.bI,bR (aT x.aF),cB x.bU,bR (x.bX.map nM),bR (aT (jG x)),bR (jX x)]
def rA(x:aP):aj:=bR (kF x++x.aL.map mQ)
noncomputable def zh(x:aP):aj:=qV (eu x) (rA x)
theorem ZW(m:bB)(hok:gV m.fBody=true):(mQ m).sz≤27+32*m.sz:=by
 have h1:=Cn m.fBody hok
 have h3:=bB.sum m
 rw[dA] at h3
 rw[mQ,iI]
 simp[fu,iQ,iI,iD,ng];omega
theorem ND:∀l:List bB,(∀g∈l,gV g.fBody=true)→fu (l.map mQ)≤27*l.length+32*aI (l.map bB.enc)
 |[],_=>by simp[fu]
 |c::l,h=>by
  have h1:=ZW c (h c (List.mem_cons_self ..))
  have h2:=ND l fun g hg=>h g (List.mem_cons_of_mem _ hg)
  rw[List.map_cons,fu,List.map_cons,aI,List.length_cons];simp only[bB.sz] at h1;omega
theorem mK{x:aP}(h:eu x=true):formed x.bU=true∧(∀b∈x.bX,formed b.fType=true)∧(x.fq=true→formed x.bQ=true)∧(∀m∈x.aL,gV m.fBody=true):=by
 unfold eu rz at h
 simp only[Bool.and_eq_true] at h
 obtain⟨⟨_,_,_,h1,_,_,_,h2,h3,_⟩,h4,_⟩:=h
 refine⟨qI h1,wN h2,fun ha=> ?_,fun m hm=> ?_⟩
 ·rw[if_pos ha] at h3;exact qI h3
 ·have h5:=List.all_eq_true.1 h4 m hm
  unfold kD at h5
  simp only[Bool.and_eq_true] at h5
  exact CB h5.2.2
theorem CF{x:aP}(hok:eu x=true):(rA x).sz≤96+40*x.sz:=by
 obtain⟨_,_,_,hm⟩:=mK hok
 have h1:=ND x.aL hm
 have h2:=IZ x.bX
 have h3:=aP.sum x
 have h4:=vW x.bU
 have h5:=vW x.bQ
 have h6:(jG x).length≤1∧((jG x).map List.length).sum≤7:=by unfold jG;split<;>simp[kU]
 have h7:(jX x).length≤1∧fu (jX x)≤(cB x.bQ).sz:=by unfold jX;split<;>simp[fu]
 rw[dA] at h3
 rw[rA,iI,gJ,List.length_append,List.length_map]
 simp[kF,fu,iQ,iI,iD,ng,AX];omega
theorem SI(n:Nat)(a b:List UInt8)(w v:List (List UInt8))(h:aj)(bs zs:List aj):lx [bO a,bO b,bR (aT w),h,bR bs,bR (aT v),bR zs] (n+1)=[[.s a,.ol (n+1) []],[.s b,.ol (n+1+1) []],[.s [],.ol (n+1+1+1) (lx (aT w) (n+1+1+1+1))],[.s h.bS,.ol (n+1+1+1+dz (bR (aT w))) (lx h.aY (n+1+1+1+dz (bR (aT w))+1))],[.s [],.ol (n+1+1+1+dz (bR (aT w))+dz h) (lx bs (n+1+1+1+dz (bR (aT w))+dz h+1))],
 [.s [],.ol (n+1+1+1+dz (bR (aT w))+dz h+dz (bR bs)) (lx (aT v) (n+1+1+1+dz (bR (aT w))+dz h+dz (bR bs)+1))],[.s [],.ol (n+1+1+1+dz (bR (aT w))+dz h+dz (bR bs)+dz (bR (aT v))) (lx zs (n+1+1+1+dz (bR (aT w))+dz h+dz (bR bs)+dz (bR (aT v))+1))]]:=by
 simp only[iA,kC,iy,jk,jl,dJ,cO,iO]
theorem NG(n:Nat)(es:List (List D)):Less (.c (.d (.ol n es))) (.c (.d (.sl es))):=fun w σ S β v h=>⟨vN h.1,h.2⟩
end Go.Ab
namespace Go.Proofs.YtcfhnaohbaplhaaGreatDoor
open Go Go.Ab
set_option maxHeartbeats 4000000 in
theorem CG(x:aP)(n:Nat)(hv:eu x=true)(hsz:x.sz≤1048576):aD Tryz.prog 143 [x.v] (.agg [.d (.s []),.d (.ol n (lx (rA x).aY (n+1)))]):=fun S=>by
 have hdz:=aP.sum x
 rw[dA] at hdz
 obtain⟨hf1,hf2,hf3,yT⟩:=mK hv
 obtain⟨p,hp⟩:∃p:Nat,p=n+1+1+1+dz (bR (aT x.aF))+dz (cB x.bU)+dz (bR (x.bX.map nM))+dz (bR (aT (jG x))):=⟨_,rfl⟩
 obtain⟨L,hL⟩:∃L:Nat→Nat,L=fun i=>n+1+gB (kF x++(x.aL.map mQ).take i):=⟨_,rfl⟩
 obtain⟨T,hT⟩:∃T:Nat→List (List D),T=fun i=>lx (kF x++(x.aL.map mQ).take i) (n+1):=⟨_,rfl⟩
 have hT0:T 0=[[.s AX,.ol (n+1) []],[.s x.bI,.ol (n+1+1) []],[.s [],.ol (n+1+1+1) (lx (aT x.aF) (n+1+1+1+1))],[.s (cB x.bU).bS,.ol (n+1+1+1+dz (bR (aT x.aF))) (lx (cB x.bU).aY (n+1+1+1+dz (bR (aT x.aF))+1))],[.s [],.ol (n+1+1+1+dz (bR (aT x.aF))+dz (cB x.bU)) (lx (x.bX.map nM) (n+1+1+1+dz (bR (aT x.aF))+dz (cB x.bU)+1))],[.s [],.ol (n+1+1+1+dz (bR (aT x.aF))+dz (cB x.bU)+dz (bR (x.bX.map nM))) (lx (aT (jG x)) (n+1+1+1+dz (bR (aT x.aF))+dz (cB x.bU)+dz (bR (x.bX.map nM))+1))],[.s [],.ol p (lx (jX x) (p+1))]]:=by
  rw[hT,hp];simp only[List.take_zero,List.append_nil,kF,SI]
 have fM:∀i,(T i).length≤i+7:=fun i=>by
  rw[hT];simp only[eT,List.length_append]
  have:=List.length_take_le i (x.aL.map mQ)
  simp[kF];omega
 have hTs:∀i (hi:i<x.aL.length),T i++[[.s [],.ol (L i) [[.s x.aL[i].fName,.ol (L i+1) []],[.s [],.ol (L i+1+1) (lx (aT x.aL[i].aF) (L i+1+1+1))],[.s (eG x.aL[i].fBody).bS,.ol (L i+1+1+dz (bR (aT x.aL[i].aF))) (lx (eG x.aL[i].fBody).aY (L i+1+1+dz (bR (aT x.aL[i].aF))+1))]]]]=T (i+1):=fun i hi=>by
  have:=uZ (base:=kF x) (l:=x.aL.map mQ) (i:=i) (by rw[List.length_map];exact hi) (n+1)
  rw[List.getElem_map,mQ,dJ,cO] at this
  simp only[iA,kC,iy,jk,jl,dJ,cO,iO] at this
  rw[hT,hL];exact this
 have hTr:∀i,∀r∈T i,r.length=2:=fun i=>by rw[hT];exact iZ
 have hTe:T x.aL.length=lx (rA x).aY (n+1):=by
  rw[hT];simp only
  rw[List.take_of_length_le (by simp)];rfl
 clear hT hL
 refine(show Hold ?T→_ from fun tail=> ?main) ?tp
 case' main=>
  cases ha:x.iR<;>cases hs:x.fq
  ·have hfl:jG x=[]:=by unfold jG;rw[ha];rfl
   have has:jX x=[]:=by unfold jX;rw[hs];rfl
   refine vK (p) 1 (n) 5 (rs:=[.cell 2 78]) Tryz.checked.mixed Tryz.func143 Tryz.ntmps143 rfl rfl rfl rfl rfl ?_
   simp -implicitDefEqProofs (disch:=omega) only[go_sem,ha,hs]
   refine W3 ?_
   refine C1 (bY _ (n+1)) ?_
   refine C1 (bY _ (n+1+1)) ?_
   refine C1 (dN x.aF (by omega) (n+1+1+1)) ?_
   refine C1 (jC x.bU (n+1+1+1+dz (bR (aT x.aF))) hf1 (by omega)) ?_
   refine C1 (qh x.bX (n+1+1+1+dz (bR (aT x.aF))+dz (cB x.bU)) hf2 (by omega) (fun b hb=>by have:=mJ hb;omega)) ?_
   refine nH (dN [] (by simp) (n+1+1+1+dz (bR (aT x.aF))+dz (cB x.bU)+dz (bR (x.bX.map nM)))) (.cons (lg p _) .nil) ?_
   refine W1 ?_
   refine C1 (kT _ _) ?_
   refine W3 ?_
   refine kV n 5 2 (T 0) (.inl ?_) (hTr 0) ?_
   ·rw[hT0,hfl,has];rfl
   refine kY (L 0) ?_
   refine oz (st':=[.seed (L 0),.seed 1,.box [.d (.s x.bI),.d (.sl (x.aF.map encS)),.d (.i .i64 x.bU.aU),.d (.s x.bU.fName),.d (.sl (x.bU.fArgs.map ah.enc)),.d (.sl (x.bX.map bA.enc)),.d (.b x.iR),.d (.b x.fq),.d (.i .i64 x.bQ.aU),.d (.s x.bQ.fName),.d (.sl (x.bQ.fArgs.map ah.enc)),.d (.sl (x.aL.map bB.enc))],.box [.d (.s []),.bC []],.d9 n 2 (T 0)]::S) [2,5,42,43,44] [.c (.ptr (0,3) 0),.c (.bH (0,4) (T 0)),.c (.d (.sl (x.aL.map bB.enc))),.c (.d (.i .i64 x.aL.length)),.c (.d (.i .i64 0))] ?_ ?_ ?_
   ·rfl
   ·rw[ha,hs];rfl
   ·exact tail.out
  ·have hfl:jG x=[]:=by unfold jG;rw[ha];rfl
   have has:jX x=[cB x.bQ]:=by unfold jX;rw[hs];rfl
   refine vK (p) 1 (n) 5 (rs:=[.cell 2 78]) Tryz.checked.mixed Tryz.func143 Tryz.ntmps143 rfl rfl rfl rfl rfl ?_
   simp -implicitDefEqProofs (disch:=omega) only[go_sem,ha,hs]
   refine W3 ?_
   refine C1 (jC x.bQ (p+1) (hf3 hs) (by omega)) ?_
   refine W3 ?_
   refine C1 (bY _ (n+1)) ?_
   refine C1 (bY _ (n+1+1)) ?_
   refine C1 (dN x.aF (by omega) (n+1+1+1)) ?_
   refine C1 (jC x.bU (n+1+1+1+dz (bR (aT x.aF))) hf1 (by omega)) ?_
   refine C1 (qh x.bX (n+1+1+1+dz (bR (aT x.aF))+dz (cB x.bU)) hf2 (by omega) (fun b hb=>by have:=mJ hb;omega)) ?_
   refine nH (dN [] (by simp) (n+1+1+1+dz (bR (aT x.aF))+dz (cB x.bU)+dz (bR (x.bX.map nM)))) (.cons (lg p _) .nil) ?_
   refine W1 ?_
   refine C1 (jm _) ?_
   refine W3 ?_
   refine kV n 5 2 (T 0) (.inl ?_) (hTr 0) ?_
   ·rw[hT0,hfl,has,iA,kC,iy];rfl
   refine kY (L 0) ?_
   refine oz (st':=[.seed (L 0),.seed 1,.box [.d (.s x.bI),.d (.sl (x.aF.map encS)),.d (.i .i64 x.bU.aU),.d (.s x.bU.fName),.d (.sl (x.bU.fArgs.map ah.enc)),.d (.sl (x.bX.map bA.enc)),.d (.b x.iR),.d (.b x.fq),.d (.i .i64 x.bQ.aU),.d (.s x.bQ.fName),.d (.sl (x.bQ.fArgs.map ah.enc)),.d (.sl (x.aL.map bB.enc))],.box [.d (.s []),.bC []],.d9 n 2 (T 0)]::S) [2,5,42,43,44] [.c (.ptr (0,3) 0),.c (.bH (0,4) (T 0)),.c (.d (.sl (x.aL.map bB.enc))),.c (.d (.i .i64 x.aL.length)),.c (.d (.i .i64 0))] ?_ ?_ ?_
   ·rfl
   ·rw[ha,hs];rfl
   ·exact tail.out
  ·have hfl:jG x=[kU]:=by unfold jG;rw[ha];rfl
   have has:jX x=[]:=by unfold jX;rw[hs];rfl
   refine vK (p) 1 (n) 5 (rs:=[.cell 2 78]) Tryz.checked.mixed Tryz.func143 Tryz.ntmps143 rfl rfl rfl rfl rfl ?_
   simp -implicitDefEqProofs (disch:=omega) only[go_sem,ha,hs]
   refine W3 ?_
   refine C1 (bY _ (n+1)) ?_
   refine C1 (bY _ (n+1+1)) ?_
   refine C1 (dN x.aF (by omega) (n+1+1+1)) ?_
   refine C1 (jC x.bU (n+1+1+1+dz (bR (aT x.aF))) hf1 (by omega)) ?_
   refine C1 (qh x.bX (n+1+1+1+dz (bR (aT x.aF))+dz (cB x.bU)) hf2 (by omega) (fun b hb=>by have:=mJ hb;omega)) ?_
   refine nH (dN [kU] (by simp) (n+1+1+1+dz (bR (aT x.aF))+dz (cB x.bU)+dz (bR (x.bX.map nM)))) (.cons (NG p _) .nil) ?_
   refine W1 ?_
   refine C1 (kT _ _) ?_
   refine W3 ?_
   refine kV n 5 2 (T 0) (.inl ?_) (hTr 0) ?_
   ·rw[hT0,hfl,has];rfl
   refine kY (L 0) ?_
   refine oz (st':=[.seed (L 0),.seed 1,.box [.d (.s x.bI),.d (.sl (x.aF.map encS)),.d (.i .i64 x.bU.aU),.d (.s x.bU.fName),.d (.sl (x.bU.fArgs.map ah.enc)),.d (.sl (x.bX.map bA.enc)),.d (.b x.iR),.d (.b x.fq),.d (.i .i64 x.bQ.aU),.d (.s x.bQ.fName),.d (.sl (x.bQ.fArgs.map ah.enc)),.d (.sl (x.aL.map bB.enc))],.box [.d (.s []),.bC []],.d9 n 2 (T 0)]::S) [2,5,42,43,44] [.c (.ptr (0,3) 0),.c (.bH (0,4) (T 0)),.c (.d (.sl (x.aL.map bB.enc))),.c (.d (.i .i64 x.aL.length)),.c (.d (.i .i64 0))] ?_ ?_ ?_
   ·rfl
   ·rw[ha,hs];rfl
   ·exact tail.out
  ·have hfl:jG x=[kU]:=by unfold jG;rw[ha];rfl
   have has:jX x=[cB x.bQ]:=by unfold jX;rw[hs];rfl
   refine vK (p) 1 (n) 5 (rs:=[.cell 2 78]) Tryz.checked.mixed Tryz.func143 Tryz.ntmps143 rfl rfl rfl rfl rfl ?_
   simp -implicitDefEqProofs (disch:=omega) only[go_sem,ha,hs]
   refine W3 ?_
   refine C1 (jC x.bQ (p+1) (hf3 hs) (by omega)) ?_
   refine W3 ?_
   refine C1 (bY _ (n+1)) ?_
   refine C1 (bY _ (n+1+1)) ?_
   refine C1 (dN x.aF (by omega) (n+1+1+1)) ?_
   refine C1 (jC x.bU (n+1+1+1+dz (bR (aT x.aF))) hf1 (by omega)) ?_
   refine C1 (qh x.bX (n+1+1+1+dz (bR (aT x.aF))+dz (cB x.bU)) hf2 (by omega) (fun b hb=>by have:=mJ hb;omega)) ?_
   refine nH (dN [kU] (by simp) (n+1+1+1+dz (bR (aT x.aF))+dz (cB x.bU)+dz (bR (x.bX.map nM)))) (.cons (NG p _) .nil) ?_
   refine W1 ?_
   refine C1 (jm _) ?_
   refine W3 ?_
   refine kV n 5 2 (T 0) (.inl ?_) (hTr 0) ?_
   ·rw[hT0,hfl,has,iA,kC,iy];rfl
   refine kY (L 0) ?_
   refine oz (st':=[.seed (L 0),.seed 1,.box [.d (.s x.bI),.d (.sl (x.aF.map encS)),.d (.i .i64 x.bU.aU),.d (.s x.bU.fName),.d (.sl (x.bU.fArgs.map ah.enc)),.d (.sl (x.bX.map bA.enc)),.d (.b x.iR),.d (.b x.fq),.d (.i .i64 x.bQ.aU),.d (.s x.bQ.fName),.d (.sl (x.bQ.fArgs.map ah.enc)),.d (.sl (x.aL.map bB.enc))],.box [.d (.s []),.bC []],.d9 n 2 (T 0)]::S) [2,5,42,43,44] [.c (.ptr (0,3) 0),.c (.bH (0,4) (T 0)),.c (.d (.sl (x.aL.map bB.enc))),.c (.d (.i .i64 x.aL.length)),.c (.d (.i .i64 0))] ?_ ?_ ?_
   ·rfl
   ·rw[ha,hs];rfl
   ·exact tail.out
 refine⟨?_⟩
 refine aQ (ι:=Nat) Tryz.checked.mixed rfl [2,5,42,43,44] (fun i=>[.c (.ptr (0,3) 0),.c (.bH (0,4) (T i)),.c (.d (.sl (x.aL.map bB.enc))),.c (.d (.i .i64 x.aL.length)),.c (.d (.i .i64 i))])
  (fun i=>[.seed (L i),.seed 1,.box [.d (.s x.bI),.d (.sl (x.aF.map encS)),.d (.i .i64 x.bU.aU),.d (.s x.bU.fName),.d (.sl (x.bU.fArgs.map ah.enc)),.d (.sl (x.bX.map bA.enc)),.d (.b x.iR),.d (.b x.fq),.d (.i .i64 x.bQ.aU),.d (.s x.bQ.fName),.d (.sl (x.bQ.fArgs.map ah.enc)),.d (.sl (x.aL.map bB.enc))],.box [.d (.s []),.bC []],.d9 n 2 (T i)]::S)
  (fun i=>i≤x.aL.length) (fun i=>x.aL.length-i) 0 rfl rfl (Nat.zero_le _) ?_
 intro i hi
 have hl:=fM i
 refine W1 ?_
 refine S0 (fun hb h=>?_) fun hb h=>?_
 ·have hi':i<x.aL.length:=by omega
  have hm:=List.getElem_mem hi'
  have hcz:=vk hm
  have hce:=bB.sum x.aL[i]
  rw[dA] at hce
  have hst:=hTs i hi'
  refine W3 ?_
  refine C1 (bY _ (L i+1)) ?_
  refine C1 (dN x.aL[i].aF (by omega) (L i+1+1)) ?_
  refine C1 (uz x.aL[i].fBody (L i+1+1+dz (bR (aT x.aL[i].aF))) (yT _ hm) (by omega)) ?_
  refine W3 ?_
  refine C1 (kT _ _) ?_
  refine W3 ?_
  rw[hst]
  refine jd (L (i+1)) 4 (by decide) (i+1) (by omega) rfl rfl ?_ rfl (by omega)
  simp[gF,fG,V.refs,C.refs,iV]
 ·have hi':i=x.aL.length:=by omega
  refine dR rfl (iT 0 4 _ _) ?_
  refine W1 ?_
  rw[hi',hTe]
set_option maxHeartbeats 4000000 in
theorem Yc(x:aP)(hv:eu x=true)(hsz:x.sz≤1048576)(ha:x.iR=true)(hs:x.fq=true):aD Tryz.prog 132 [x.v] (oZ (rA x)).v:=fun S=>by
 have hdz:=aP.sum x
 rw[dA] at hdz
 obtain⟨hf1,hf2,hf3,yT⟩:=mK hv
 have hz:=CF hv
 have hfl:jG x=[kU]:=by unfold jG;rw[ha];rfl
 have has:jX x=[cB x.bQ]:=by unfold jX;rw[hs];rfl
 obtain⟨T,hT⟩:∃T:Nat→List (List D),T=fun i=>(kF x++(x.aL.map mQ).take i).map aj.enc:=⟨_,rfl⟩
 have hT0:T 0=[[.s AX,.sl []],[.s x.bI,.sl []],[.s [],.sl ((aT x.aF).map aj.enc)],[.s (cB x.bU).bS,.sl ((cB x.bU).aY.map aj.enc)],[.s [],.sl ((x.bX.map nM).map aj.enc)],[.s [],.sl ((aT [kU]).map aj.enc)],[.s [],.sl [[.s (cB x.bQ).bS,.sl ((cB x.bQ).aY.map aj.enc)]]]]:=by
  rw[hT];simp only[List.take_zero,List.append_nil,kF,hfl,has,List.map_cons,List.map_nil,dX,iq,aj.aH (cB x.bU),aj.aH (cB x.bQ)]
 have fM:∀i,(T i).length≤i+7:=fun i=>by
  rw[hT];simp only[List.length_map,List.length_append]
  have:=List.length_take_le i (x.aL.map mQ)
  simp[kF];omega
 have hTs:∀i (hi:i<x.aL.length),T i++[[.s [],.sl [[.s x.aL[i].fName,.sl []],[.s [],.sl ((aT x.aL[i].aF).map aj.enc)],[.s (eG x.aL[i].fBody).bS,.sl ((eG x.aL[i].fBody).aY.map aj.enc)]]]]=T (i+1):=fun i hi=>by
  have:=gQ (base:=kF x) (l:=x.aL.map mQ) (i:=i) (by rw[List.length_map];exact hi)
  rw[List.getElem_map,mQ,dJ,cO] at this
  simp only[List.map_cons,List.map_nil,dX,iq,aj.aH (eG x.aL[i].fBody)] at this
  rw[hT];exact this
 have hTr:∀i,∀r∈T i,r.length=2:=fun i=>by rw[hT];exact jg
 have hTe:T x.aL.length=(rA x).aY.map aj.enc:=by
  rw[hT];simp only
  rw[List.take_of_length_le (by simp)];rfl
 clear hT
 refine aB (rs:=[.cell 2 78]) Tryz.checked.mixed Tryz.func132 Tryz.ntmps132 rfl rfl rfl rfl rfl ?_
 refine W1 ?_
 refine bN (lN x (by omega)) ?_
 simp -implicitDefEqProofs (disch:=omega) only[go_sem,hv,ha,hs]
 refine W3 ?_
 refine C1 (jN x.bQ (by omega)) ?_
 refine W3 ?_
 refine C1 (kJ _ (by simp) (by simp)) ?_
 refine W3 ?_
 refine C1 (bJ _) ?_
 refine C1 (bJ _) ?_
 refine C1 (dG x.aF (by omega)) ?_
 refine C1 (jN x.bU (by omega)) ?_
 refine C1 (ru x.bX (by omega) (fun b hb=>by have:=mJ hb;omega)) ?_
 refine C1 (dG [kU] (by simp)) ?_
 have hE:=fun bM Ω=>iJ (T 0) (hTr 0) (by have:=fM 0;omega) bM Ω
 simp only[hT0] at hE
 refine kN [false] rfl (hE _ _) ?_
 refine W1 ?_
 refine aQ (ι:=Nat) Tryz.checked.mixed rfl [1,2,5,6] (fun i=>[.c (.ptr (0,0) 0),.c (.ptr (0,1) 0),.c (.ptr (0,6) 0),.c (.d (.i .i64 i))])
  (fun i=>[.box [.d (.s x.bI),.d (.sl (x.aF.map encS)),.d (.i .i64 x.bU.aU),.d (.s x.bU.fName),.d (.sl (x.bU.fArgs.map ah.enc)),.d (.sl (x.bX.map bA.enc)),.d (.b true),.d (.b true),.d (.i .i64 x.bQ.aU),.d (.s x.bQ.fName),.d (.sl (x.bQ.fArgs.map ah.enc)),.d (.sl (x.aL.map bB.enc))],.box [.d (.s []),.bC []],.tok 1 [[.s kU]],.box [.d (.s []),.d (.sl [[.s (cB x.bQ).bS,.sl ((cB x.bQ).aY.map aj.enc)]])],.box [.d (.s []),.bH (0,5) (T 0)],.tok 2 (T i),.box [.d (.s []),.bH (0,5) (T i)]]::S)
  (fun i=>i≤x.aL.length) (fun i=>x.aL.length-i) 0 rfl (by simp only[hT0]<;>(try rfl)) (Nat.zero_le _) ?_
 intro i hi
 have hl:=fM i
 refine W1 ?_
 refine S0 (fun hb h=>?_) fun hb h=>?_
 ·have hi':i<x.aL.length:=by omega
  have hm:=List.getElem_mem hi'
  have hcz:=vk hm
  have hce:=bB.sum x.aL[i]
  rw[dA] at hce
  have hst:=hTs i hi'
  refine W3 ?_
  refine C1 (bJ _) ?_
  refine C1 (dG x.aL[i].aF (by omega)) ?_
  refine C1 (o8 x.aL[i].fBody (yT _ hm) (by omega)) ?_
  refine C1 (kJ _ (by simp) (by simp)) ?_
  refine W3 ?_
  rw[hst]
  exact cu 7 (by decide) (i+1) (by omega) rfl rfl rfl rfl (by omega)
 ·have hi':i=x.aL.length:=by omega
  subst hi'
  rw[hTe]
  refine C1 (ni true (rA x) (by omega)) ?_
  rfl
set_option maxHeartbeats 4000000 in
theorem Yd(x:aP)(hv:eu x=true)(hsz:x.sz≤1048576)(ha:x.iR=true)(hs:x.fq=false):aD Tryz.prog 132 [x.v] (oZ (rA x)).v:=fun S=>by
 have hdz:=aP.sum x
 rw[dA] at hdz
 obtain⟨hf1,hf2,hf3,yT⟩:=mK hv
 have hz:=CF hv
 have hfl:jG x=[kU]:=by unfold jG;rw[ha];rfl
 have has:jX x=[]:=by unfold jX;rw[hs];rfl
 obtain⟨T,hT⟩:∃T:Nat→List (List D),T=fun i=>(kF x++(x.aL.map mQ).take i).map aj.enc:=⟨_,rfl⟩
 have hT0:T 0=[[.s AX,.sl []],[.s x.bI,.sl []],[.s [],.sl ((aT x.aF).map aj.enc)],[.s (cB x.bU).bS,.sl ((cB x.bU).aY.map aj.enc)],[.s [],.sl ((x.bX.map nM).map aj.enc)],[.s [],.sl ((aT [kU]).map aj.enc)],[.s [],.sl []]]:=by
  rw[hT];simp only[List.take_zero,List.append_nil,kF,hfl,has,List.map_cons,List.map_nil,dX,iq,aj.aH (cB x.bU),aj.aH (cB x.bQ)]
 have fM:∀i,(T i).length≤i+7:=fun i=>by
  rw[hT];simp only[List.length_map,List.length_append]
  have:=List.length_take_le i (x.aL.map mQ)
  simp[kF];omega
 have hTs:∀i (hi:i<x.aL.length),T i++[[.s [],.sl [[.s x.aL[i].fName,.sl []],[.s [],.sl ((aT x.aL[i].aF).map aj.enc)],[.s (eG x.aL[i].fBody).bS,.sl ((eG x.aL[i].fBody).aY.map aj.enc)]]]]=T (i+1):=fun i hi=>by
  have:=gQ (base:=kF x) (l:=x.aL.map mQ) (i:=i) (by rw[List.length_map];exact hi)
  rw[List.getElem_map,mQ,dJ,cO] at this
  simp only[List.map_cons,List.map_nil,dX,iq,aj.aH (eG x.aL[i].fBody)] at this
  rw[hT];exact this
 have hTr:∀i,∀r∈T i,r.length=2:=fun i=>by rw[hT];exact jg
 have hTe:T x.aL.length=(rA x).aY.map aj.enc:=by
  rw[hT];simp only
  rw[List.take_of_length_le (by simp)];rfl
 clear hT
 refine aB (rs:=[.cell 2 78]) Tryz.checked.mixed Tryz.func132 Tryz.ntmps132 rfl rfl rfl rfl rfl ?_
 refine W1 ?_
 refine bN (lN x (by omega)) ?_
 simp -implicitDefEqProofs (disch:=omega) only[go_sem,hv,ha,hs]
 refine W3 ?_
 refine C1 (bJ _) ?_
 refine C1 (bJ _) ?_
 refine C1 (dG x.aF (by omega)) ?_
 refine C1 (jN x.bU (by omega)) ?_
 refine C1 (ru x.bX (by omega) (fun b hb=>by have:=mJ hb;omega)) ?_
 refine C1 (dG [kU] (by simp)) ?_
 have hE:=fun bM Ω=>iJ (T 0) (hTr 0) (by have:=fM 0;omega) bM Ω
 simp only[hT0] at hE
 refine kN [false] rfl (hE _ _) ?_
 refine W1 ?_
 refine aQ (ι:=Nat) Tryz.checked.mixed rfl [1,2,5,6] (fun i=>[.c (.ptr (0,0) 0),.c (.ptr (0,1) 0),.c (.ptr (0,6) 0),.c (.d (.i .i64 i))])
  (fun i=>[.box [.d (.s x.bI),.d (.sl (x.aF.map encS)),.d (.i .i64 x.bU.aU),.d (.s x.bU.fName),.d (.sl (x.bU.fArgs.map ah.enc)),.d (.sl (x.bX.map bA.enc)),.d (.b true),.d (.b false),.d (.i .i64 x.bQ.aU),.d (.s x.bQ.fName),.d (.sl (x.bQ.fArgs.map ah.enc)),.d (.sl (x.aL.map bB.enc))],.box [.d (.s []),.bC []],.tok 1 [[.s kU]],.box [.d (.s []),.bC []],.box [.d (.s []),.bH (0,5) (T 0)],.tok 2 (T i),.box [.d (.s []),.bH (0,5) (T i)]]::S)
  (fun i=>i≤x.aL.length) (fun i=>x.aL.length-i) 0 rfl (by simp only[hT0]<;>(try rfl)) (Nat.zero_le _) ?_
 intro i hi
 have hl:=fM i
 refine W1 ?_
 refine S0 (fun hb h=>?_) fun hb h=>?_
 ·have hi':i<x.aL.length:=by omega
  have hm:=List.getElem_mem hi'
  have hcz:=vk hm
  have hce:=bB.sum x.aL[i]
  rw[dA] at hce
  have hst:=hTs i hi'
  refine W3 ?_
  refine C1 (bJ _) ?_
  refine C1 (dG x.aL[i].aF (by omega)) ?_
  refine C1 (o8 x.aL[i].fBody (yT _ hm) (by omega)) ?_
  refine C1 (kJ _ (by simp) (by simp)) ?_
  refine W3 ?_
  rw[hst]
  exact cu 7 (by decide) (i+1) (by omega) rfl rfl rfl rfl (by omega)
 ·have hi':i=x.aL.length:=by omega
  subst hi'
  rw[hTe]
  refine C1 (ni true (rA x) (by omega)) ?_
  rfl
set_option maxHeartbeats 4000000 in
theorem Ye(x:aP)(hv:eu x=true)(hsz:x.sz≤1048576)(ha:x.iR=false)(hs:x.fq=true):aD Tryz.prog 132 [x.v] (oZ (rA x)).v:=fun S=>by
 have hdz:=aP.sum x
 rw[dA] at hdz
 obtain⟨hf1,hf2,hf3,yT⟩:=mK hv
 have hz:=CF hv
 have hfl:jG x=[]:=by unfold jG;rw[ha];rfl
 have has:jX x=[cB x.bQ]:=by unfold jX;rw[hs];rfl
 obtain⟨T,hT⟩:∃T:Nat→List (List D),T=fun i=>(kF x++(x.aL.map mQ).take i).map aj.enc:=⟨_,rfl⟩
 have hT0:T 0=[[.s AX,.sl []],[.s x.bI,.sl []],[.s [],.sl ((aT x.aF).map aj.enc)],[.s (cB x.bU).bS,.sl ((cB x.bU).aY.map aj.enc)],[.s [],.sl ((x.bX.map nM).map aj.enc)],[.s [],.sl ((aT []).map aj.enc)],[.s [],.sl [[.s (cB x.bQ).bS,.sl ((cB x.bQ).aY.map aj.enc)]]]]:=by
  rw[hT];simp only[List.take_zero,List.append_nil,kF,hfl,has,List.map_cons,List.map_nil,dX,iq,aj.aH (cB x.bU),aj.aH (cB x.bQ)]
 have fM:∀i,(T i).length≤i+7:=fun i=>by
  rw[hT];simp only[List.length_map,List.length_append]
  have:=List.length_take_le i (x.aL.map mQ)
  simp[kF];omega
 have hTs:∀i (hi:i<x.aL.length),T i++[[.s [],.sl [[.s x.aL[i].fName,.sl []],[.s [],.sl ((aT x.aL[i].aF).map aj.enc)],[.s (eG x.aL[i].fBody).bS,.sl ((eG x.aL[i].fBody).aY.map aj.enc)]]]]=T (i+1):=fun i hi=>by
  have:=gQ (base:=kF x) (l:=x.aL.map mQ) (i:=i) (by rw[List.length_map];exact hi)
  rw[List.getElem_map,mQ,dJ,cO] at this
  simp only[List.map_cons,List.map_nil,dX,iq,aj.aH (eG x.aL[i].fBody)] at this
  rw[hT];exact this
 have hTr:∀i,∀r∈T i,r.length=2:=fun i=>by rw[hT];exact jg
 have hTe:T x.aL.length=(rA x).aY.map aj.enc:=by
  rw[hT];simp only
  rw[List.take_of_length_le (by simp)];rfl
 clear hT
 refine aB (rs:=[.cell 2 78]) Tryz.checked.mixed Tryz.func132 Tryz.ntmps132 rfl rfl rfl rfl rfl ?_
 refine W1 ?_
 refine bN (lN x (by omega)) ?_
 simp -implicitDefEqProofs (disch:=omega) only[go_sem,hv,ha,hs]
 refine W3 ?_
 refine C1 (jN x.bQ (by omega)) ?_
 refine W3 ?_
 refine C1 (kJ _ (by simp) (by simp)) ?_
 refine W3 ?_
 refine C1 (bJ _) ?_
 refine C1 (bJ _) ?_
 refine C1 (dG x.aF (by omega)) ?_
 refine C1 (jN x.bU (by omega)) ?_
 refine C1 (ru x.bX (by omega) (fun b hb=>by have:=mJ hb;omega)) ?_
 refine C1 (dG [] (by simp)) ?_
 have hE:=fun bM Ω=>iJ (T 0) (hTr 0) (by have:=fM 0;omega) bM Ω
 simp only[hT0] at hE
 refine kN [false] rfl (hE _ _) ?_
 refine W1 ?_
 refine aQ (ι:=Nat) Tryz.checked.mixed rfl [1,2,5,6] (fun i=>[.c (.ptr (0,0) 0),.c (.ptr (0,1) 0),.c (.ptr (0,5) 0),.c (.d (.i .i64 i))])
  (fun i=>[.box [.d (.s x.bI),.d (.sl (x.aF.map encS)),.d (.i .i64 x.bU.aU),.d (.s x.bU.fName),.d (.sl (x.bU.fArgs.map ah.enc)),.d (.sl (x.bX.map bA.enc)),.d (.b false),.d (.b true),.d (.i .i64 x.bQ.aU),.d (.s x.bQ.fName),.d (.sl (x.bQ.fArgs.map ah.enc)),.d (.sl (x.aL.map bB.enc))],.box [.d (.s []),.bC []],.box [.d (.s []),.d (.sl [[.s (cB x.bQ).bS,.sl ((cB x.bQ).aY.map aj.enc)]])],.box [.d (.s []),.bH (0,4) (T 0)],.tok 2 (T i),.box [.d (.s []),.bH (0,4) (T i)]]::S)
  (fun i=>i≤x.aL.length) (fun i=>x.aL.length-i) 0 rfl (by simp only[hT0]<;>(try rfl)) (Nat.zero_le _) ?_
 intro i hi
 have hl:=fM i
 refine W1 ?_
 refine S0 (fun hb h=>?_) fun hb h=>?_
 ·have hi':i<x.aL.length:=by omega
  have hm:=List.getElem_mem hi'
  have hcz:=vk hm
  have hce:=bB.sum x.aL[i]
  rw[dA] at hce
  have hst:=hTs i hi'
  refine W3 ?_
  refine C1 (bJ _) ?_
  refine C1 (dG x.aL[i].aF (by omega)) ?_
  refine C1 (o8 x.aL[i].fBody (yT _ hm) (by omega)) ?_
  refine C1 (kJ _ (by simp) (by simp)) ?_
  refine W3 ?_
  rw[hst]
  exact cu 6 (by decide) (i+1) (by omega) rfl rfl rfl rfl (by omega)
 ·have hi':i=x.aL.length:=by omega
  subst hi'
  rw[hTe]
  refine C1 (ni true (rA x) (by omega)) ?_
  rfl
set_option maxHeartbeats 4000000 in
theorem Yf(x:aP)(hv:eu x=true)(hsz:x.sz≤1048576)(ha:x.iR=false)(hs:x.fq=false):aD Tryz.prog 132 [x.v] (oZ (rA x)).v:=fun S=>by
 have hdz:=aP.sum x
 rw[dA] at hdz
 obtain⟨hf1,hf2,hf3,yT⟩:=mK hv
 have hz:=CF hv
 have hfl:jG x=[]:=by unfold jG;rw[ha];rfl
 have has:jX x=[]:=by unfold jX;rw[hs];rfl
 obtain⟨T,hT⟩:∃T:Nat→List (List D),T=fun i=>(kF x++(x.aL.map mQ).take i).map aj.enc:=⟨_,rfl⟩
 have hT0:T 0=[[.s AX,.sl []],[.s x.bI,.sl []],[.s [],.sl ((aT x.aF).map aj.enc)],[.s (cB x.bU).bS,.sl ((cB x.bU).aY.map aj.enc)],[.s [],.sl ((x.bX.map nM).map aj.enc)],[.s [],.sl ((aT []).map aj.enc)],[.s [],.sl []]]:=by
  rw[hT];simp only[List.take_zero,List.append_nil,kF,hfl,has,List.map_cons,List.map_nil,dX,iq,aj.aH (cB x.bU),aj.aH (cB x.bQ)]
 have fM:∀i,(T i).length≤i+7:=fun i=>by
  rw[hT];simp only[List.length_map,List.length_append]
  have:=List.length_take_le i (x.aL.map mQ)
  simp[kF];omega
 have hTs:∀i (hi:i<x.aL.length),T i++[[.s [],.sl [[.s x.aL[i].fName,.sl []],[.s [],.sl ((aT x.aL[i].aF).map aj.enc)],[.s (eG x.aL[i].fBody).bS,.sl ((eG x.aL[i].fBody).aY.map aj.enc)]]]]=T (i+1):=fun i hi=>by
  have:=gQ (base:=kF x) (l:=x.aL.map mQ) (i:=i) (by rw[List.length_map];exact hi)
  rw[List.getElem_map,mQ,dJ,cO] at this
  simp only[List.map_cons,List.map_nil,dX,iq,aj.aH (eG x.aL[i].fBody)] at this
  rw[hT];exact this
 have hTr:∀i,∀r∈T i,r.length=2:=fun i=>by rw[hT];exact jg
 have hTe:T x.aL.length=(rA x).aY.map aj.enc:=by
  rw[hT];simp only
  rw[List.take_of_length_le (by simp)];rfl
 clear hT
 refine aB (rs:=[.cell 2 78]) Tryz.checked.mixed Tryz.func132 Tryz.ntmps132 rfl rfl rfl rfl rfl ?_
 refine W1 ?_
 refine bN (lN x (by omega)) ?_
 simp -implicitDefEqProofs (disch:=omega) only[go_sem,hv,ha,hs]
 refine W3 ?_
 refine C1 (bJ _) ?_
 refine C1 (bJ _) ?_
 refine C1 (dG x.aF (by omega)) ?_
 refine C1 (jN x.bU (by omega)) ?_
 refine C1 (ru x.bX (by omega) (fun b hb=>by have:=mJ hb;omega)) ?_
 refine C1 (dG [] (by simp)) ?_
 have hE:=fun bM Ω=>iJ (T 0) (hTr 0) (by have:=fM 0;omega) bM Ω
 simp only[hT0] at hE
 refine kN [false] rfl (hE _ _) ?_
 refine W1 ?_
 refine aQ (ι:=Nat) Tryz.checked.mixed rfl [1,2,5,6] (fun i=>[.c (.ptr (0,0) 0),.c (.ptr (0,1) 0),.c (.ptr (0,5) 0),.c (.d (.i .i64 i))])
  (fun i=>[.box [.d (.s x.bI),.d (.sl (x.aF.map encS)),.d (.i .i64 x.bU.aU),.d (.s x.bU.fName),.d (.sl (x.bU.fArgs.map ah.enc)),.d (.sl (x.bX.map bA.enc)),.d (.b false),.d (.b false),.d (.i .i64 x.bQ.aU),.d (.s x.bQ.fName),.d (.sl (x.bQ.fArgs.map ah.enc)),.d (.sl (x.aL.map bB.enc))],.box [.d (.s []),.bC []],.box [.d (.s []),.bC []],.box [.d (.s []),.bH (0,4) (T 0)],.tok 2 (T i),.box [.d (.s []),.bH (0,4) (T i)]]::S)
  (fun i=>i≤x.aL.length) (fun i=>x.aL.length-i) 0 rfl (by simp only[hT0]<;>(try rfl)) (Nat.zero_le _) ?_
 intro i hi
 have hl:=fM i
 refine W1 ?_
 refine S0 (fun hb h=>?_) fun hb h=>?_
 ·have hi':i<x.aL.length:=by omega
  have hm:=List.getElem_mem hi'
  have hcz:=vk hm
  have hce:=bB.sum x.aL[i]
  rw[dA] at hce
  have hst:=hTs i hi'
  refine W3 ?_
  refine C1 (bJ _) ?_
  refine C1 (dG x.aL[i].aF (by omega)) ?_
  refine C1 (o8 x.aL[i].fBody (yT _ hm) (by omega)) ?_
  refine C1 (kJ _ (by simp) (by simp)) ?_
  refine W3 ?_
  rw[hst]
  exact cu 6 (by decide) (i+1) (by omega) rfl rfl rfl rfl (by omega)
 ·have hi':i=x.aL.length:=by omega
  subst hi'
  rw[hTe]
  refine C1 (ni true (rA x) (by omega)) ?_
  rfl
theorem NH(x:aP)(hsz:x.sz≤1048576):aD Tryz.prog 132 [x.v] (zh x).v:=by
 unfold zh
 cases hv:eu x with
 |false=>
  rw[qV]
  refine aD.less (fun S=> ?_) (u6 [] [])
  refine aB (rs:=[.cell 2 78]) Tryz.checked.mixed Tryz.func132 Tryz.ntmps132 rfl rfl rfl rfl rfl ?_
  refine W1 ?_
  refine bN (lN x (by omega)) ?_
  simp -implicitDefEqProofs (disch:=omega) only[go_sem,hv]
 |true=>
  rw[qV]
  cases ha:x.iR with
  |true=>
   cases hs:x.fq with
   |true=>exact Yc x hv hsz ha hs
   |false=>exact Yd x hv hsz ha hs
  |false=>
   cases hs:x.fq with
   |true=>exact Ye x hv hsz ha hs
   |false=>exact Yf x hv hsz ha hs
end Go.Proofs.YtcfhnaohbaplhaaGreatDoor
namespace Go.Ab
def eZ(p:aV):List (List UInt8):=p.aK.map bg.fName
def gT(p:aV):List (List UInt8):=p.ak.map aN.fName
def fO(ds:List aN):List (List UInt8):=ds.flatMap fun d=>d.aG.map aO.fName
def fnNames(p:aV):List (List UInt8):=p.aM.map aR.fName
def uD(ps:List aV):List (List UInt8):=ps.flatMap eZ
def uE(ps:List aV):List (List UInt8):=ps.flatMap gT
def uF(ps:List aV):List (List UInt8):=ps.flatMap fun p=>fO p.ak
def uG(ps:List aV):List (List UInt8):=ps.flatMap fnNames
noncomputable def kK(ps:List aV):Bool:=dec (uD ps).Nodup&&(dec (uE ps).Nodup&&(dec (uF ps).Nodup&&dec (uG ps).Nodup))
theorem tF{α β:Type}(f:α→List β){xs:List α}{i:Nat}(hi:i<xs.length):(xs.take (i+1)).flatMap f=(xs.take i).flatMap f++f xs[i]:=by
 rw[List.take_succ_eq_append_getElem hi,List.flatMap_append]
 simp
theorem qz{α β:Type}(f:α→List β)(g:α→List D)(h:∀x,(f x).length≤bL (g x)):∀xs:List α,(xs.flatMap f).length≤aI (xs.map g)
 |[]=>by simp[aI]
 |x::xs=>by
  have h1:=h x
  have h2:=qz f g h xs
  rw[List.flatMap_cons,List.length_append,List.map_cons,aI]
  omega
theorem YM(ds:List aN):(fO ds).length≤aI (ds.map aN.enc):=qz _ _ (fun d=>by
 rw[List.length_map]
 simp only[aN.aH,bL,bf,D.sz,List.length_map]
 omega) ds
theorem NI(ps:List aV):(uD ps).length≤aI (ps.map aV.enc)∧(uE ps).length≤aI (ps.map aV.enc)∧(uF ps).length≤aI (ps.map aV.enc)∧(uG ps).length≤aI (ps.map aV.enc):=by
 refine⟨qz _ _ (fun p=> ?_) ps,qz _ _ (fun p=> ?_) ps,qz _ _ (fun p=> ?_) ps,qz _ _ (fun p=> ?_) ps⟩
 ·simp only[eZ,aV.aH,bL,bf,D.sz,List.length_map];omega
 ·simp only[gT,aV.aH,bL,bf,D.sz,List.length_map];omega
 ·have:=YM p.ak
  simp only[aV.aH,bL,bf,D.sz,List.length_map];omega
 ·simp only[fnNames,aV.aH,bL,bf,D.sz,List.length_map];omega
theorem aV.bounds{x:aV}(h:x.sz≤4194304):x.fName.length≤4194304∧x.dY.length≤4194304∧x.aK.length≤4194304∧x.ak.length≤4194304∧x.aJ.length≤4194304∧x.aM.length≤4194304∧(fO x.ak).length≤4194304:=by
 have:=YM x.ak
 simp only[aV.sz,aV.aH,bL,bf,D.sz,List.length_map] at h
 omega
end Go.Ab
namespace Go.Proofs.YtcfhnaohbaplhaaGreatDoor
open Go Go.Ab
theorem NJ(x:aV):∀left:Int,0≤left→left≤1048576→kP x.enc→aD Tryz.prog 14 [x.v,.c (.d (.i .i64 left))] (.c (.d (.i .i64 (cK left x.sz)))):=by
 intro left h0 h1 hf S
 simp only[aV.aH,List.cons_append,List.nil_append,iM,iK,iG,and_true] at hf
 obtain⟨fName,dY,aK,ak,aJ,aM⟩:=hf
 have hz:x.sz=x.fName.length+((x.dY.length+aI (x.dY.map encS))+((x.aK.length+aI (x.aK.map bg.enc))+((x.ak.length+aI (x.ak.map aN.enc))+((x.aJ.length+aI (x.aJ.map aP.enc))+((x.aM.length+aI (x.aM.map aR.enc))))))):=by
  simp only[aV.sz,aV.aH,bL,bf,D.sz,List.length_map,Nat.add_zero,Nat.zero_add]<;>omega
 refine aB (rs:=[.tmp 4]) Tryz.checked.mixed Tryz.func14 Tryz.ntmps14 rfl rfl rfl rfl rfl ?_
 rw[hz]
 have wW:=pJ fName
 refine W1 ?_
 refine S0 (fun hb h=>?_) fun hb h=>?_
 ·exact int_eq (bV (by omega)).symm
 refine C1 (l8 x.dY _ (by omega) (by omega) dY) ?_
 refine S0 (fun hb h=>?_) fun hb h=>?_
 ·have h':=dB h
  exact int_eq (bV (by omega)).symm
 have adw:=dP h
 simp only[adw.1]
 refine C1 (OV x.aK _ (by omega) (by omega) aK) ?_
 refine S0 (fun hb h=>?_) fun hb h=>?_
 ·have h':=dB h
  exact int_eq (bV (by omega)).symm
 have ZX:=dP h
 simp only[ZX.1]
 refine C1 (IC x.ak _ (by omega) (by omega) ak) ?_
 refine S0 (fun hb h=>?_) fun hb h=>?_
 ·have h':=dB h
  exact int_eq (bV (by omega)).symm
 have SK:=dP h
 simp only[SK.1]
 refine C1 (IL x.aJ _ (by omega) (by omega) aJ) ?_
 refine S0 (fun hb h=>?_) fun hb h=>?_
 ·have h':=dB h
  exact int_eq (bV (by omega)).symm
 have SL:=dP h
 simp only[SL.1]
 refine C1 (IV x.aM _ (by omega) (by omega) aM) ?_
 refine S0 (fun hb h=>?_) fun hb h=>?_
 ·have h':=dB h
  exact int_eq (bV (by omega)).symm
 have SN:=dP h
 simp only[SN.1]
 refine int_eq ?_
 rw[fA (by omega)]
 omega
theorem yx(x:aV):x.sz≤1048576→aD Tryz.prog 16 [x.v] x.v:=by
 intro hsz S
 simp only[aV.sz,aV.aH,bL,bf,D.sz,List.length_map] at hsz
 refine aB (rs:=[.cell 2 55]) Tryz.checked.mixed Tryz.func16 Tryz.ntmps16 rfl rfl rfl rfl rfl ?_
 refine W1 ?_
 refine C1 (l9 x.dY (by omega)) ?_
 refine C1 (OW x.aK (by omega)) ?_
 refine C1 (IE x.ak (by omega)) ?_
 refine C1 (IQ x.aJ (by omega)) ?_
 exact C3 (IW x.aM (by omega))
theorem NK(x:aV):∀y:aV,x.sz≤1048576→aD Tryz.prog 18 [x.v,y.v] (.c (.d (.b (dec (x=y))))):=by
 intro y hsz S
 simp only[aV.sz,aV.aH,bL,bf,D.sz,List.length_map] at hsz
 refine aB (rs:=[.tmp 4]) Tryz.checked.mixed Tryz.func18 Tryz.ntmps18 rfl rfl rfl rfl rfl ?_
 refine W1 ?_
 refine S0 (fun hb h=>?_) fun hb h=>?_
 ·exact ay (aC (fun e=>h (by rw[e]))).symm
 have mX:=h
 clear h
 refine C1 (mh x.dY _ (by omega)) ?_
 refine S0 (fun hb h=>?_) fun hb h=>?_
 ·exact ay (aC (fun e=>h (by rw[e]))).symm
 have adx:=h
 clear h
 refine C1 (OY x.aK _ (by omega)) ?_
 refine S0 (fun hb h=>?_) fun hb h=>?_
 ·exact ay (aC (fun e=>h (by rw[e]))).symm
 have ZY:=h
 clear h
 refine C1 (IG x.ak _ (by omega)) ?_
 refine S0 (fun hb h=>?_) fun hb h=>?_
 ·exact ay (aC (fun e=>h (by rw[e]))).symm
 have SQ:=h
 clear h
 refine C1 (IU x.aJ _ (by omega)) ?_
 refine S0 (fun hb h=>?_) fun hb h=>?_
 ·exact ay (aC (fun e=>h (by rw[e]))).symm
 have SS:=h
 clear h
 refine C1 (IX x.aM _ (by omega)) ?_
 refine S0 (fun hb h=>?_) fun hb h=>?_
 ·exact ay (aC (fun e=>h (by rw[e]))).symm
 have SV:=h
 clear h
 exact ay (bq (aV.ext' mX adx ZY SQ SS SV)).symm
end Go.Proofs.YtcfhnaohbaplhaaGreatDoor
namespace Go.Proofs.YtcfhnaohbaplhaaGreatDoor
open Go Go.Ab
end Go.Proofs.YtcfhnaohbaplhaaGreatDoor
namespace Go.Ab
theorem eB.bounds{x:eB}(h:x.sz≤4194304):x.nW.length≤4194304:=by
 simp only[eB.sz,eB.aH,bL,bf,D.sz,List.length_map] at h
 omega
end Go.Ab
namespace Go.Proofs.YtcfhnaohbaplhaaGreatDoor
open Go Go.Ab
end Go.Proofs.YtcfhnaohbaplhaaGreatDoor
