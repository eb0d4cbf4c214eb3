/-
  SEVERAL TEXTS IN ONE (merged by program): contracts and models, each with its own heading.
-/
import Derived.Test.YtlaaknnkeidlbaaGreatDoorPartDedbK
import Derived.Test.YtlaaknnkeidlbaaGreatDoorPartDedbL
open Go.Proofs Go.Proofs.Tryz
set_option linter.unusedSimpArgs false
set_option linter.unusedVariables false
set_option maxRecDepth 4000
namespace Go.Ab
theorem mE(hd:List ah)(xs:List aj)(S:Store)(hA:∀t∈xs,aF prog 45 [t.v] (bT t).v)(hl:xs.length<=4194304)(hh:hd.length<=4):bL prog 115 [.c (.bB (hd.map ah.enc)),.c (.d (.sl (xs.map aj.enc)))] S
 (fun r S'=>r=.agg [.d (.s []),.d (.sl ((hd++xs.map bT).map ah.enc))]/\S'=S):=by
 obtain⟨T,hT⟩:∃T:Nat->List (List D),T=fun i=>(hd++(xs.map bT).take i).map ah.enc:=⟨_,rfl⟩
 have hT0:T 0=hd.map ah.enc:=by rw[hT];simp only[df,bw]
 have Bg:∀i,(T i).length<=i+hd.length:=fun i=>by
  rw[hT];simp only[ai,ab];have:=ci i (xs.map bT);omega
 have hTs:∀i (hi:i<xs.length),T i++[[.s (bT xs[i]).aI,.sl ((bT xs[i]).ak.map ah.enc)]]=T (i+1):=fun i hi=>by
  have:=nX (base:=hd) (l:=xs.map bT) (i:=i) (by rw[ai];exact hi);rw[cj] at this;rw[hT];exact this
 have hTe:T xs.length=(hd++xs.map bT).map ah.enc:=by rw[hT];simp only;rw[cm (by simp)]
 clear hT;rw[<-hT0];rw[<-hTe];refine zcx [.cell 4 37] func115 ntmps115 ?_;simp -implicitDefEqProofs (disch:=omega) only[go_sem];refine LH 1 1 2 (T 0) [.d (.s []),.bB (T 0)] rfl rfl (by rw[hT0];exact ji) ?_
 refine bI (ι:=Nat) zmx rfl [1,4,5,6] (fun i=>[.c (.d (.sl (xs.map aj.enc))),.c (.ptr (0,0) 0),.c (.ptr (0,1) 0),.c (.d (.i .i64 i))])
  (fun i=>[.box [.d (.s []),.bB []],.box [.d (.s []),.bM (0,2) (T i)],.tok 2 (T i)]::S)
  (fun i=>i<=xs.length) (fun i=>xs.length-i) 0 rfl rfl (ba _) ?_
 intro i hi;have hl:=Bg i;simp -implicitDefEqProofs (disch:=omega) only[go_sem]
 with_reducible refine ay (fun hb=> ?_) (fun hb=> ?_)<;>have h:=hb<;>(try simp only[wf_preprocess] at h)<;>simp -implicitDefEqProofs (disch:=omega) only[go_sem,hb]<;>(repeat(with_reducible refine And.intro ?_ ?_;focus first|omega|rfl|assumption|exact⟨_,rfl,rfl⟩|(simp;omega)|(simp;done)))
 ·have hi':i<xs.length:=by omega
  have hs:=hTs i hi'
  (repeat(with_reducible refine And.intro ?_ ?_;focus first|omega|rfl|assumption|exact⟨_,rfl,rfl⟩|(simp;omega)|(simp;done)))
  refine aA (hA xs[i] (ap hi')) ?_;simp -implicitDefEqProofs (disch:=omega) only[go_sem]
  (repeat(with_reducible refine And.intro ?_ ?_;focus first|omega|rfl|assumption|exact⟨_,rfl,rfl⟩|(simp;omega)|(simp;done)))
  rw[hs];exact bZ (i+1) (by omega) rfl rfl (by omega)
 ·have hi':i=xs.length:=by omega
  subst hi';rfl
theorem PX(hd:List ah)(xs:List aj)(bq:List Ab.Obj)(Ω:Store)(hA:∀t∈xs,aF prog 45 [t.v] (bT t).v)(hl:xs.length<=4194304)(hh:hd.length<=4):bL prog 115 [.c (.bB (hd.map ah.enc)),.c (.d (.sl (xs.map aj.enc)))] (bq::Ω)
 (fun r S'=>r=.agg [.d (.s []),.bM (0,bq.length+2) ((hd++xs.map bT).map ah.enc)]/\S'=(bq++[.box [.d (.s []),.bM (0,bq.length+2) ((hd++xs.map bT).map ah.enc)],.box [.d (.s []),.bM (0,bq.length+2) ((hd++xs.map bT).map ah.enc)],.tok 2 ((hd++xs.map bT).map ah.enc)])::Ω):=by
 obtain⟨T,hT⟩:∃T:Nat->List (List D),T=fun i=>(hd++(xs.map bT).take i).map ah.enc:=⟨_,rfl⟩
 have hT0:T 0=hd.map ah.enc:=by rw[hT];simp only[df,bw]
 have Bg:∀i,(T i).length<=i+hd.length:=fun i=>by
  rw[hT];simp only[ai,ab];have:=ci i (xs.map bT);omega
 have hTs:∀i (hi:i<xs.length),T i++[[.s (bT xs[i]).aI,.sl ((bT xs[i]).ak.map ah.enc)]]=T (i+1):=fun i hi=>by
  have:=nX (base:=hd) (l:=xs.map bT) (i:=i) (by rw[ai];exact hi);rw[cj] at this;rw[hT];exact this
 have hTe:T xs.length=(hd++xs.map bT).map ah.enc:=by rw[hT];simp only;rw[cm (by simp)]
 clear hT;rw[<-hT0];rw[<-hTe];refine LX (rs:=[.cell 4 37]) zmx func115 ntmps115 rfl rfl rfl rfl rfl ?_;simp -implicitDefEqProofs (disch:=omega) only[go_sem];refine LH 1 1 2 (T 0) [.d (.s []),.bB (T 0)] rfl rfl (by rw[hT0];exact ji) ?_
 refine bI (ι:=Nat) zmx rfl [1,4,5,6] (fun i=>[.c (.d (.sl (xs.map aj.enc))),.c (.ptr (0,0) 0),.c (.ptr (0,1) 0),.c (.d (.i .i64 i))])
  (fun i=>[.box [.d (.s []),.bB []],.box [.d (.s []),.bM (0,2) (T i)],.tok 2 (T i)]::bq::Ω)
  (fun i=>i<=xs.length) (fun i=>xs.length-i) 0 rfl rfl (ba _) ?_
 intro i hi;have hl:=Bg i;simp -implicitDefEqProofs (disch:=omega) only[go_sem]
 with_reducible refine ay (fun hb=> ?_) (fun hb=> ?_)<;>have h:=hb<;>(try simp only[wf_preprocess] at h)<;>simp -implicitDefEqProofs (disch:=omega) only[go_sem,hb]<;>(repeat(with_reducible refine And.intro ?_ ?_;focus first|omega|rfl|assumption|exact⟨_,rfl,rfl⟩|(simp;omega)|(simp;done)))
 ·have hi':i<xs.length:=by omega
  have hs:=hTs i hi'
  (repeat(with_reducible refine And.intro ?_ ?_;focus first|omega|rfl|assumption|exact⟨_,rfl,rfl⟩|(simp;omega)|(simp;done)))
  refine aA (hA xs[i] (ap hi')) ?_;simp -implicitDefEqProofs (disch:=omega) only[go_sem]
  (repeat(with_reducible refine And.intro ?_ ?_;focus first|omega|rfl|assumption|exact⟨_,rfl,rfl⟩|(simp;omega)|(simp;done)))
  rw[hs];exact bZ (i+1) (by omega) rfl rfl (by omega)
 ·have hi':i=xs.length:=by omega
  subst hi';exact⟨rfl,rfl⟩
theorem Jy:∀N:Nat,∀x:aj,SizeOf.sizeOf x<N->gT x=true->x.sz<=4194304->aF prog 45 [x.v] (bT x).v
 |0=>fun x h=>by omega
 |N+1=>by
  have ih:=Jy N;intro x hn hok hsz S;have j4:=aj.jo x;have BU:=aj.tu x;have hzz:=qZ x;rw[qR,af,af] at hok;obtain⟨hfi,hoa,Ee⟩:=hok;have hfi:=iJ hfi;have hoa:=vT.1 hoa;have Ee:=yj.1 Ee;have hA:∀t∈x.fArgs,aF prog 45 [t.v] (bT t).v:=fun t ht=>ih t (by have:=bc ht;omega) (hoa t ht) (by have:=Ed ht;omega);have hxe:=wP x;refine zcx [.cell 2 37] func45 ntmps45 ?_;simp -implicitDefEqProofs (disch:=omega) only[go_sem]
  with_reducible refine ay (fun hb=> ?_) (fun hb=> ?_)<;>have h:=hb<;>(try simp only[wf_preprocess] at h)<;>simp -implicitDefEqProofs (disch:=omega) only[go_sem,hb]<;>(repeat(with_reducible refine And.intro ?_ ?_;focus first|omega|rfl|assumption|exact⟨_,rfl,rfl⟩|(simp;omega)|(simp;done)))
  ·rw[if_pos h] at hxe;rw[hxe];have hb:=hfi.2.2.2.1;rw[if_pos h] at hb;refine aA (sI x.fN (by omega) (by omega)) ?_;simp -implicitDefEqProofs (disch:=omega) only[go_sem];refine aA (aZ _) ?_;simp -implicitDefEqProofs (disch:=omega) only[go_sem];rfl
  have k1:=h;rw[if_neg h] at hxe
  with_reducible refine ay (fun hb=> ?_) (fun hb=> ?_)<;>have h:=hb<;>(try simp only[wf_preprocess] at h)<;>simp -implicitDefEqProofs (disch:=omega) only[go_sem,hb]<;>(repeat(with_reducible refine And.intro ?_ ?_;focus first|omega|rfl|assumption|exact⟨_,rfl,rfl⟩|(simp;omega)|(simp;done)))
  ·rw[if_pos h] at hxe;rw[hxe];have hb:=hfi.2.2.2.1;rw[if_neg k1,if_pos h] at hb;rcases hb with e|e
   ·rw[e];simp -implicitDefEqProofs (disch:=omega) only[go_sem,eE]
    (repeat(with_reducible refine And.intro ?_ ?_;focus first|omega|rfl|assumption|exact⟨_,rfl,rfl⟩|(simp;omega)|(simp;done)))
    refine aA (aZ _) ?_;simp -implicitDefEqProofs (disch:=omega) only[go_sem];rfl
   ·rw[e];simp -implicitDefEqProofs (disch:=omega) only[go_sem,eE,List.getD_cons_succ]
    (repeat(with_reducible refine And.intro ?_ ?_;focus first|omega|rfl|assumption|exact⟨_,rfl,rfl⟩|(simp;omega)|(simp;done)))
    refine aA (aZ _) ?_;simp -implicitDefEqProofs (disch:=omega) only[go_sem];rfl
  have k2:=h;rw[if_neg h] at hxe
  with_reducible refine ay (fun hb=> ?_) (fun hb=> ?_)<;>have h:=hb<;>(try simp only[wf_preprocess] at h)<;>simp -implicitDefEqProofs (disch:=omega) only[go_sem,hb]<;>(repeat(with_reducible refine And.intro ?_ ?_;focus first|omega|rfl|assumption|exact⟨_,rfl,rfl⟩|(simp;omega)|(simp;done)))
  ·rw[if_pos h] at hxe;rw[hxe];refine aA (aZ _) ?_;simp -implicitDefEqProofs (disch:=omega) only[go_sem];rfl
  have k3:=h;clear hxe
  with_reducible refine ay (fun hb=> ?_) (fun hb=> ?_)<;>have h:=hb<;>(try simp only[wf_preprocess] at h)<;>simp -implicitDefEqProofs (disch:=omega) only[go_sem,hb]<;>(repeat(with_reducible refine And.intro ?_ ?_;focus first|omega|rfl|assumption|exact⟨_,rfl,rfl⟩|(simp;omega)|(simp;done)))
  ·have hx:=fF k1 k2 k3 (by omega)
   have hh:eD x.aH x.aW x.fName x.fType=[aM kg,aM x.fName]:=by rw[eP h];rfl
   rw[hh] at hx;refine aA (aZ _) ?_;simp -implicitDefEqProofs (disch:=omega) only[go_sem];refine aA (aZ _) ?_;simp -implicitDefEqProofs (disch:=omega) only[go_sem];have hE:=fun S=>mE [aM kg,aM x.fName] x.fArgs S hA (by omega) (by simp);simp only[ag,az,eO] at hE;refine aQ rfl (hE _) ?_;simp -implicitDefEqProofs (disch:=omega) only[go_sem];rw[hx];rfl
  have k4:=h
  with_reducible refine ay (fun hb=> ?_) (fun hb=> ?_)<;>have h:=hb<;>(try simp only[wf_preprocess] at h)<;>simp -implicitDefEqProofs (disch:=omega) only[go_sem,hb]<;>(repeat(with_reducible refine And.intro ?_ ?_;focus first|omega|rfl|assumption|exact⟨_,rfl,rfl⟩|(simp;omega)|(simp;done)))
  ·have hx:=fF k1 k2 k3 (by omega)
   have hh:eD x.aH x.aW x.fName x.fType=[aM fM,aM x.aW,aM x.fName]:=by rw[eP h];rfl
   rw[hh] at hx;refine aA (aZ _) ?_;simp -implicitDefEqProofs (disch:=omega) only[go_sem];refine aA (aZ _) ?_;simp -implicitDefEqProofs (disch:=omega) only[go_sem];refine aA (aZ _) ?_;simp -implicitDefEqProofs (disch:=omega) only[go_sem];have hE:=fun S=>mE [aM fM,aM x.aW,aM x.fName] x.fArgs S hA (by omega) (by simp);simp only[ag,az,eO] at hE;refine aQ rfl (hE _) ?_;simp -implicitDefEqProofs (disch:=omega) only[go_sem];rw[hx];rfl
  have k5:=h
  with_reducible refine ay (fun hb=> ?_) (fun hb=> ?_)<;>have h:=hb<;>(try simp only[wf_preprocess] at h)<;>simp -implicitDefEqProofs (disch:=omega) only[go_sem,hb]<;>(repeat(with_reducible refine And.intro ?_ ?_;focus first|omega|rfl|assumption|exact⟨_,rfl,rfl⟩|(simp;omega)|(simp;done)))
  ·have hx:=fF k1 k2 k3 (by omega)
   have hh:eD x.aH x.aW x.fName x.fType=[aM mV,aM x.fName]:=by rw[eP h];rfl
   rw[hh] at hx;refine aA (aZ _) ?_;simp -implicitDefEqProofs (disch:=omega) only[go_sem];refine aA (aZ _) ?_;simp -implicitDefEqProofs (disch:=omega) only[go_sem];have hE:=fun S=>mE [aM mV,aM x.fName] x.fArgs S hA (by omega) (by simp);simp only[ag,az,eO] at hE;refine aQ rfl (hE _) ?_;simp -implicitDefEqProofs (disch:=omega) only[go_sem];rw[hx];rfl
  have k6:=h
  with_reducible refine ay (fun hb=> ?_) (fun hb=> ?_)<;>have h:=hb<;>(try simp only[wf_preprocess] at h)<;>simp -implicitDefEqProofs (disch:=omega) only[go_sem,hb]<;>(repeat(with_reducible refine And.intro ?_ ?_;focus first|omega|rfl|assumption|exact⟨_,rfl,rfl⟩|(simp;omega)|(simp;done)))
  ·have hx:=fF k1 k2 k3 (by omega)
   have hh:eD x.aH x.aW x.fName x.fType=[aM mW,aM x.fName]:=by rw[eP h];rfl
   rw[hh] at hx;refine aA (aZ _) ?_;simp -implicitDefEqProofs (disch:=omega) only[go_sem];refine aA (aZ _) ?_;simp -implicitDefEqProofs (disch:=omega) only[go_sem];have hE:=fun S=>mE [aM mW,aM x.fName] x.fArgs S hA (by omega) (by simp);simp only[ag,az,eO] at hE;refine aQ rfl (hE _) ?_;simp -implicitDefEqProofs (disch:=omega) only[go_sem];rw[hx];rfl
  have k8:=h
  with_reducible refine ay (fun hb=> ?_) (fun hb=> ?_)<;>have h:=hb<;>(try simp only[wf_preprocess] at h)<;>simp -implicitDefEqProofs (disch:=omega) only[go_sem,hb]<;>(repeat(with_reducible refine And.intro ?_ ?_;focus first|omega|rfl|assumption|exact⟨_,rfl,rfl⟩|(simp;omega)|(simp;done)))
  ·have hx:=fF k1 k2 k3 (by omega)
   have hh:eD x.aH x.aW x.fName x.fType=[aM qY]:=by rw[eP h];rfl
   rw[hh] at hx;refine aA (aZ _) ?_;simp -implicitDefEqProofs (disch:=omega) only[go_sem];have hE:=fun S=>mE [aM qY] x.fArgs S hA (by omega) (by simp);simp only[ag,az,eO] at hE;refine aQ rfl (hE _) ?_;simp -implicitDefEqProofs (disch:=omega) only[go_sem];rw[hx];rfl
  have k9:=h
  with_reducible refine ay (fun hb=> ?_) (fun hb=> ?_)<;>have h:=hb<;>(try simp only[wf_preprocess] at h)<;>simp -implicitDefEqProofs (disch:=omega) only[go_sem,hb]<;>(repeat(with_reducible refine And.intro ?_ ?_;focus first|omega|rfl|assumption|exact⟨_,rfl,rfl⟩|(simp;omega)|(simp;done)))
  ·have hx:=fF k1 k2 k3 (by omega)
   have hh:eD x.aH x.aW x.fName x.fType=[aM x.fName]:=by rw[eP h];rfl
   rw[hh] at hx;refine aA (aZ _) ?_;simp -implicitDefEqProofs (disch:=omega) only[go_sem];have hE:=fun S=>mE [aM x.fName] x.fArgs S hA (by omega) (by simp);simp only[ag,az,eO] at hE;refine aQ rfl (hE _) ?_;simp -implicitDefEqProofs (disch:=omega) only[go_sem];rw[hx];rfl
  have k10:=h
  with_reducible refine ay (fun hb=> ?_) (fun hb=> ?_)<;>have h:=hb<;>(try simp only[wf_preprocess] at h)<;>simp -implicitDefEqProofs (disch:=omega) only[go_sem,hb]<;>(repeat(with_reducible refine And.intro ?_ ?_;focus first|omega|rfl|assumption|exact⟨_,rfl,rfl⟩|(simp;omega)|(simp;done)))
  ·have hx:=fF k1 k2 k3 (by omega)
   have hh:eD x.aH x.aW x.fName x.fType=[aM kr,aM x.aW]:=by rw[eP h];rfl
   rw[hh] at hx;refine aA (aZ _) ?_;simp -implicitDefEqProofs (disch:=omega) only[go_sem];refine aA (aZ _) ?_;simp -implicitDefEqProofs (disch:=omega) only[go_sem];have hE:=fun S=>mE [aM kr,aM x.aW] x.fArgs S hA (by omega) (by simp);simp only[ag,az,eO] at hE;refine aQ rfl (hE _) ?_;simp -implicitDefEqProofs (disch:=omega) only[go_sem];rw[hx];rfl
  have k11:=h
  with_reducible refine ay (fun hb=> ?_) (fun hb=> ?_)<;>have h:=hb<;>(try simp only[wf_preprocess] at h)<;>simp -implicitDefEqProofs (disch:=omega) only[go_sem,hb]<;>(repeat(with_reducible refine And.intro ?_ ?_;focus first|omega|rfl|assumption|exact⟨_,rfl,rfl⟩|(simp;omega)|(simp;done)))
  ·have hx:=fF k1 k2 k3 (by omega)
   have hh:eD x.aH x.aW x.fName x.fType=[aM nA,fP x.fType]:=by rw[eP h];rfl
   rw[hh] at hx;refine aA (aZ _) ?_;simp -implicitDefEqProofs (disch:=omega) only[go_sem];refine aA (L8 x.fType (by omega)) ?_;simp -implicitDefEqProofs (disch:=omega) only[go_sem];have hE:=fun S=>mE [aM nA,fP x.fType] x.fArgs S hA (by omega) (by simp);simp only[ag,az,eO,ah.aB (fP x.fType)] at hE;refine aQ rfl (hE _) ?_;simp -implicitDefEqProofs (disch:=omega) only[go_sem];rw[hx];show _=V.agg [.d (.s []),.d (.sl (List.map ah.enc (aM nA::fP x.fType::x.fArgs.map bT)))];simp only[am,aw,ag,eO,ah.aB (fP x.fType)];rfl
  have k12:=h
  have hk7:x.aH=7:=by have:=hfi.1;omega
  have hx:=wP x;rw[if_neg k1,if_neg k2,if_neg k3,if_neg (by omega)] at hx
  have hh:eD x.aH x.aW x.fName x.fType=[aM gJ]:=by rw[eP hk7];rfl
  rw[hh] at hx;refine aA (aZ _) ?_;simp -implicitDefEqProofs (disch:=omega) only[go_sem];have hE:=fun bq Ω=>PX [aM gJ] x.fArgs bq Ω hA (by omega) (by simp);obtain⟨B,hB⟩:∃B:Nat->List (List D),B=fun i=>(([aM gJ]++x.fArgs.map bT)++(x.aG.map rJ).take i).map ah.enc:=⟨_,rfl⟩
  have hB0:([aM gJ]++x.fArgs.map bT).map ah.enc=B 0:=by rw[hB];simp only[df,bw]
  have hBl:∀i,(B i).length<=i+x.fArgs.length+1:=fun i=>by
   rw[hB];simp only[ab,ai,aa,aq];have:=ci i (x.aG.map rJ);omega
  have hBr:∀i,∀r∈B i,r.length=2:=fun i=>by rw[hB];exact ji
  have Mc:∀i (hi:i<x.aG.length),B i++[[.s [],.sl (([aM x.aG[i].bK]++aP x.aG[i].bH++[bT x.aG[i].fBody]).map ah.enc)]]=B (i+1):=fun i hi=>by
   have:=nX (base:=[aM gJ]++x.fArgs.map bT) (l:=x.aG.map rJ) (i:=i) (by rw[ai];exact hi);rw[cj,PU,fB,eY] at this;rw[hB];exact this
  have Zg:B x.aG.length=([aM gJ]++x.fArgs.map bT++x.aG.map rJ).map ah.enc:=by rw[hB];simp only;rw[cm (by simp)]
  clear hB;simp only[hB0] at hE;simp only[ag,az,eO] at hE;refine aQ rfl (hE _ _) ?_;simp -implicitDefEqProofs (disch:=omega) only[go_sem]
  refine bI (ι:=Nat) zmx rfl [1,2,3,4] (fun i=>[.c (.ptr (0,0) 0),.c (.ptr (0,1) 0),.c (.ptr (0,5) 0),.c (.d (.i .i64 i))])
   (fun i=>[.box [.d (.i .i64 x.aH),.d (.s x.aW),.d (.s x.fName),.d (.i .i64 x.fN),.d (.i .i64 x.fType.aH),.d (.s x.fType.fName),.d (.sl (x.fType.fArgs.map au.enc)),.d (.sl (x.fArgs.map aj.enc)),.d (.sl (x.aG.map aK.enc))],.box [.d (.s []),.bB []],.box [.d (.s []),.bM (0,4) (B 0)],.box [.d (.s []),.bM (0,4) (B 0)],.tok 2 (B i),.box [.d (.s []),.bM (0,4) (B i)]]::S)
   (fun i=>i<=x.aG.length) (fun i=>x.aG.length-i) 0 rfl rfl (ba _) ?_
  intro i hi;have hl:=hBl i;have hr:=hBr i;simp -implicitDefEqProofs (disch:=omega) only[go_sem]
  with_reducible refine ay (fun hb=> ?_) (fun hb=> ?_)<;>have h:=hb<;>(try simp only[wf_preprocess] at h)<;>simp -implicitDefEqProofs (disch:=omega) only[go_sem,hb]<;>(repeat(with_reducible refine And.intro ?_ ?_;focus first|omega|rfl|assumption|exact⟨_,rfl,rfl⟩|(simp;omega)|(simp;done)))
  ·have hi':i<x.aG.length:=by omega
   have hm:=ap hi';have Xx:=Ci hm;have Zh:=tV x.aG[i];have hs:=Mc i hi';have hak:=Ee _ hm;rw[mQ,af,af] at hak;have hls:=bc hm;have hlb:=aK.rD x.aG[i]
   (repeat(with_reducible refine And.intro ?_ ?_;focus first|omega|rfl|assumption|exact⟨_,rfl,rfl⟩|(simp;omega)|(simp;done)))
   refine aA (aZ _) ?_;simp -implicitDefEqProofs (disch:=omega) only[go_sem]
   (repeat(with_reducible refine And.intro ?_ ?_;focus first|omega|rfl|assumption|exact⟨_,rfl,rfl⟩|(simp;omega)|(simp;done)))
   refine aA (Eb x.aG[i].bH (by omega)) ?_;have hwr:=ji (l:=aP x.aG[i].bH)
   have hwl:(aP x.aG[i].bH).length=x.aG[i].bH.length:=by rw[lq]
   simp -implicitDefEqProofs (disch:=omega) only[go_sem]
   (repeat(with_reducible refine And.intro ?_ ?_;focus first|omega|rfl|assumption|exact⟨_,rfl,rfl⟩|(simp;omega)|(simp;done)))
   refine aA (ih x.aG[i].fBody (by omega) hak.2.2 (by omega)) ?_;simp -implicitDefEqProofs (disch:=omega) only[go_sem]
   (repeat(with_reducible refine And.intro ?_ ?_;focus first|omega|rfl|assumption|exact⟨_,rfl,rfl⟩|(simp;omega)|(simp;done)))
   simp only[am,aw,ag,az,bi,eO,ah.aB (bT x.aG[i].fBody)] at hs;rw[hs];exact iD 6 (by decide) (i+1) (by omega) rfl rfl rfl rfl (by omega)
  ·have hi':i=x.aG.length:=by omega
   subst hi';rw[hx,Zg];rfl
theorem wR(x:aj)(hok:gT x=true)(hsz:x.sz<=4194304):aF prog 45 [x.v] (bT x).v:=Jy _ x (br _) hok hsz
end Go.Ab