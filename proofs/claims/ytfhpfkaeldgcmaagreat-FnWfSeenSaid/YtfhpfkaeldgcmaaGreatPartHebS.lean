/-
  SEVERAL TEXTS IN ONE (merged by program): contracts and models, each with its own heading.
-/
import Derived.Test.YtfhpfkaeldgcmaaGreatPartHebO
import Derived.Test.YtfhpfkaeldgcmaaGreatPartHebQ
import Derived.Test.YtfhpfkaeldgcmaaGreatPartHebR
import Derived.Lib.AppendZeros
import Derived.Laws.Cover3
set_option maxHeartbeats 8000000
open Go.Proofs Go.Proofs.Tryz
set_option linter.unusedSimpArgs false
set_option linter.unusedVariables false
set_option maxRecDepth 4000
namespace Go.Ab
theorem J3{xs:List (List UInt8)}:∀y∈xs.map encS,y.length=1:=fun y hy=>by
 obtain⟨z,_,rfl⟩:=List.mem_map.1 hy;rfl
theorem bY.args{P:Program}{f:FuncId}{args args':List V}{S:Store}{post:V->Store->Prop}(h:bY P f args' S post)(hl:uo args args'):bY P f args S post:=h.weaken hl.length fun j x y hx hy w σ β v hr=>hl.at j x y hx hy w σ S β v hr
theorem rR{x:aD}{k:Int}(h:x.aV=k):jZ x.aV x.bW x.fName x.fType=jZ k x.bW x.fName x.fType:=by rw[h]
theorem aa5{l:List aD}{t:aD}(h:t∈l):t.sz<=sw l:=by
 rw[<-JX];exact dO (List.mem_map_of_mem h)
theorem Yh{l:List bE}{t:bE}(h:t∈l):t.sz<=zU l:=by
 rw[<-JY];exact dO (List.mem_map_of_mem h)
theorem Jm:∀{xs:List aD},lJ xs=true<->∀t∈xs,iY t=true
 |[]=>by simp[lJ]
 |t::ts=>by simp[lJ,Jm (xs:=ts)]
theorem LH:∀{xs:List bE},oG xs=true<->∀t∈xs,yS t=true
 |[]=>by simp[oG]
 |t::ts=>by simp[oG,LH (xs:=ts)]
theorem uz{x:aD}(h1:x.aV≠1)(h2:x.aV≠2)(h3:x.aV≠3)(h:x.aV=4\/x.aV=5\/x.aV=6\/x.aV=8\/x.aV=9\/x.aV=10\/x.aV=11\/x.aV=12):
 fM x=eB (jZ x.aV x.bW x.fName x.fType++x.fArgs.map fM):=by rw[RU,if_neg h1,if_neg h2,if_neg h3,if_pos h,List.append_nil]
theorem og(hd:List au)(xs:List aD)(S:Store)(hA:∀t∈xs,aX prog 270 [t.v] (fM t).v)(hl:xs.length<=4194304)(hh:hd.length<=4):bY prog 277 [.c (.bM (hd.map au.enc)),.c (.d (.sl (xs.map aD.enc)))] S
 (fun r S'=>r=.agg [.d (.s []),.d (.sl ((hd++xs.map fM).map au.enc))]/\S'=S):=by
 obtain⟨T,hT⟩:∃T:Nat->List (List D),T=fun i=>(hd++(xs.map fM).take i).map au.enc:=⟨_,rfl⟩
 have hT0:T 0=hd.map au.enc:=by rw[hT];simp only[List.take_zero,List.append_nil]
 have jY:∀i,(T i).length<=i+hd.length:=fun i=>by
  rw[hT];simp only[List.length_map,List.length_append];have:=List.length_take_le i (xs.map fM);omega
 have hTs:∀i (hi:i<xs.length),T i++[[.s (fM xs[i]).bH,.sl ((fM xs[i]).aA.map au.enc)]]=T (i+1):=fun i hi=>by
  have:=iN (base:=hd) (l:=xs.map fM) (i:=i) (by rw[List.length_map];exact hi);rw[List.getElem_map] at this;rw[hT];exact this
 have hTe:T xs.length=(hd++xs.map fM).map au.enc:=by rw[hT];simp only;rw[List.take_of_length_le (by simp)]
 clear hT;rw[<-hT0];rw[<-hTe];refine zcx [.cell 4 202] func277 ntmps277 ?_;simp -implicitDefEqProofs (disch:=omega) only[go_sem];refine Ce 1 1 2 (T 0) [.d (.s []),.bM (T 0)] rfl rfl (by rw[hT0];exact jf) ?_
 refine bN (ι:=Nat) zmx rfl [1,4,5,6] (fun i=>[.c (.d (.sl (xs.map aD.enc))),.c (.ptr (0,0) 0),.c (.ptr (0,1) 0),.c (.d (.i .i64 i))])
  (fun i=>[.box [.d (.s []),.bM []],.box [.d (.s []),.bV (0,2) (T i)],.tok 2 (T i)]::S)
  (fun i=>i<=xs.length) (fun i=>xs.length-i) 0 rfl rfl (Nat.zero_le _) ?_
 intro i hi;have hl:=jY i;simp -implicitDefEqProofs (disch:=omega) only[go_sem]
 with_reducible refine aC (fun hb=> ?_) (fun hb=> ?_)<;>have h:=hb<;>(try simp only[wf_preprocess] at h)<;>simp -implicitDefEqProofs (disch:=omega) only[go_sem,hb]<;>(repeat(with_reducible refine And.intro ?_ ?_;focus first|omega|rfl|assumption|exact⟨_,rfl,rfl⟩|(simp;omega)|(simp;done)))
 ·have hi':i<xs.length:=by omega
  have hs:=hTs i hi'
  (repeat(with_reducible refine And.intro ?_ ?_;focus first|omega|rfl|assumption|exact⟨_,rfl,rfl⟩|(simp;omega)|(simp;done)))
  refine aB (hA xs[i] (List.getElem_mem hi')) ?_;simp -implicitDefEqProofs (disch:=omega) only[go_sem]
  (repeat(with_reducible refine And.intro ?_ ?_;focus first|omega|rfl|assumption|exact⟨_,rfl,rfl⟩|(simp;omega)|(simp;done)))
  rw[hs];exact bT (i+1) (by omega) rfl rfl (by omega)
 ·have hi':i=xs.length:=by omega
  subst hi';rfl
theorem RV(hd:List au)(xs:List aD)(cB:List Ab.Obj)(Ω:Store)(hA:∀t∈xs,aX prog 270 [t.v] (fM t).v)(hl:xs.length<=4194304)(hh:hd.length<=4):bY prog 277 [.c (.bM (hd.map au.enc)),.c (.d (.sl (xs.map aD.enc)))] (cB::Ω)
 (fun r S'=>r=.agg [.d (.s []),.bV (0,cB.length+2) ((hd++xs.map fM).map au.enc)]/\S'=(cB++[.box [.d (.s []),.bV (0,cB.length+2) ((hd++xs.map fM).map au.enc)],.box [.d (.s []),.bV (0,cB.length+2) ((hd++xs.map fM).map au.enc)],.tok 2 ((hd++xs.map fM).map au.enc)])::Ω):=by
 obtain⟨T,hT⟩:∃T:Nat->List (List D),T=fun i=>(hd++(xs.map fM).take i).map au.enc:=⟨_,rfl⟩
 have hT0:T 0=hd.map au.enc:=by rw[hT];simp only[List.take_zero,List.append_nil]
 have jY:∀i,(T i).length<=i+hd.length:=fun i=>by
  rw[hT];simp only[List.length_map,List.length_append];have:=List.length_take_le i (xs.map fM);omega
 have hTs:∀i (hi:i<xs.length),T i++[[.s (fM xs[i]).bH,.sl ((fM xs[i]).aA.map au.enc)]]=T (i+1):=fun i hi=>by
  have:=iN (base:=hd) (l:=xs.map fM) (i:=i) (by rw[List.length_map];exact hi);rw[List.getElem_map] at this;rw[hT];exact this
 have hTe:T xs.length=(hd++xs.map fM).map au.enc:=by rw[hT];simp only;rw[List.take_of_length_le (by simp)]
 clear hT;rw[<-hT0];rw[<-hTe];refine Gt (rs:=[.cell 4 202]) zmx func277 ntmps277 rfl rfl rfl rfl rfl ?_;simp -implicitDefEqProofs (disch:=omega) only[go_sem];refine Ce 1 1 2 (T 0) [.d (.s []),.bM (T 0)] rfl rfl (by rw[hT0];exact jf) ?_
 refine bN (ι:=Nat) zmx rfl [1,4,5,6] (fun i=>[.c (.d (.sl (xs.map aD.enc))),.c (.ptr (0,0) 0),.c (.ptr (0,1) 0),.c (.d (.i .i64 i))])
  (fun i=>[.box [.d (.s []),.bM []],.box [.d (.s []),.bV (0,2) (T i)],.tok 2 (T i)]::cB::Ω)
  (fun i=>i<=xs.length) (fun i=>xs.length-i) 0 rfl rfl (Nat.zero_le _) ?_
 intro i hi;have hl:=jY i;simp -implicitDefEqProofs (disch:=omega) only[go_sem]
 with_reducible refine aC (fun hb=> ?_) (fun hb=> ?_)<;>have h:=hb<;>(try simp only[wf_preprocess] at h)<;>simp -implicitDefEqProofs (disch:=omega) only[go_sem,hb]<;>(repeat(with_reducible refine And.intro ?_ ?_;focus first|omega|rfl|assumption|exact⟨_,rfl,rfl⟩|(simp;omega)|(simp;done)))
 ·have hi':i<xs.length:=by omega
  have hs:=hTs i hi'
  (repeat(with_reducible refine And.intro ?_ ?_;focus first|omega|rfl|assumption|exact⟨_,rfl,rfl⟩|(simp;omega)|(simp;done)))
  refine aB (hA xs[i] (List.getElem_mem hi')) ?_;simp -implicitDefEqProofs (disch:=omega) only[go_sem]
  (repeat(with_reducible refine And.intro ?_ ?_;focus first|omega|rfl|assumption|exact⟨_,rfl,rfl⟩|(simp;omega)|(simp;done)))
  rw[hs];exact bT (i+1) (by omega) rfl rfl (by omega)
 ·have hi':i=xs.length:=by omega
  subst hi';exact⟨rfl,rfl⟩
theorem LJ:∀N:Nat,∀x:aD,SizeOf.sizeOf x<N->iY x=true->x.sz<=4194304->aX prog 270 [x.v] (fM x).v
 |0=>fun x h=>by omega
 |N+1=>by
  have ih:=LJ N;intro x hn hok hsz S;have nO:=aD.j3 x;have PU:=aD.Dz x;have hzz:=yw x;rw[Om,Bool.and_eq_true,Bool.and_eq_true] at hok;obtain⟨hfi,hoa,hom⟩:=hok;have hfi:=gD hfi;have hoa:=Jm.1 hoa;have hom:=LH.1 hom;have hA:∀t∈x.fArgs,aX prog 270 [t.v] (fM t).v:=fun t ht=>ih t (by have:=List.sizeOf_lt_of_mem ht;omega) (hoa t ht) (by have:=aa5 ht;omega);have hxe:=RU x;refine zcx [.cell 2 202] func270 ntmps270 ?_;simp -implicitDefEqProofs (disch:=omega) only[go_sem]
  with_reducible refine aC (fun hb=> ?_) (fun hb=> ?_)<;>have h:=hb<;>(try simp only[wf_preprocess] at h)<;>simp -implicitDefEqProofs (disch:=omega) only[go_sem,hb]<;>(repeat(with_reducible refine And.intro ?_ ?_;focus first|omega|rfl|assumption|exact⟨_,rfl,rfl⟩|(simp;omega)|(simp;done)))
  ·rw[if_pos h] at hxe;rw[hxe];have hb:=hfi.2.2.2.1;rw[if_pos h] at hb;refine aB (vN x.fN (by omega) (by omega)) ?_;simp -implicitDefEqProofs (disch:=omega) only[go_sem];refine aB (bS _) ?_;simp -implicitDefEqProofs (disch:=omega) only[go_sem];rfl
  have k1:=h;rw[if_neg h] at hxe
  with_reducible refine aC (fun hb=> ?_) (fun hb=> ?_)<;>have h:=hb<;>(try simp only[wf_preprocess] at h)<;>simp -implicitDefEqProofs (disch:=omega) only[go_sem,hb]<;>(repeat(with_reducible refine And.intro ?_ ?_;focus first|omega|rfl|assumption|exact⟨_,rfl,rfl⟩|(simp;omega)|(simp;done)))
  ·rw[if_pos h] at hxe;rw[hxe];have hb:=hfi.2.2.2.1;rw[if_neg k1,if_pos h] at hb;rcases hb with e|e
   ·rw[e];simp -implicitDefEqProofs (disch:=omega) only[go_sem,List.getD_cons_zero]
    (repeat(with_reducible refine And.intro ?_ ?_;focus first|omega|rfl|assumption|exact⟨_,rfl,rfl⟩|(simp;omega)|(simp;done)))
    refine aB (bS _) ?_;simp -implicitDefEqProofs (disch:=omega) only[go_sem];rfl
   ·rw[e];simp -implicitDefEqProofs (disch:=omega) only[go_sem,List.getD_cons_zero,List.getD_cons_succ]
    (repeat(with_reducible refine And.intro ?_ ?_;focus first|omega|rfl|assumption|exact⟨_,rfl,rfl⟩|(simp;omega)|(simp;done)))
    refine aB (bS _) ?_;simp -implicitDefEqProofs (disch:=omega) only[go_sem];rfl
  have k2:=h;rw[if_neg h] at hxe
  with_reducible refine aC (fun hb=> ?_) (fun hb=> ?_)<;>have h:=hb<;>(try simp only[wf_preprocess] at h)<;>simp -implicitDefEqProofs (disch:=omega) only[go_sem,hb]<;>(repeat(with_reducible refine And.intro ?_ ?_;focus first|omega|rfl|assumption|exact⟨_,rfl,rfl⟩|(simp;omega)|(simp;done)))
  ·rw[if_pos h] at hxe;rw[hxe];refine aB (bS _) ?_;simp -implicitDefEqProofs (disch:=omega) only[go_sem];rfl
  have k3:=h;clear hxe
  with_reducible refine aC (fun hb=> ?_) (fun hb=> ?_)<;>have h:=hb<;>(try simp only[wf_preprocess] at h)<;>simp -implicitDefEqProofs (disch:=omega) only[go_sem,hb]<;>(repeat(with_reducible refine And.intro ?_ ?_;focus first|omega|rfl|assumption|exact⟨_,rfl,rfl⟩|(simp;omega)|(simp;done)))
  ·have hx:=uz k1 k2 k3 (by omega)
   have hh:jZ x.aV x.bW x.fName x.fType=[bQ qb,bQ x.fName]:=by rw[rR h];rfl
   rw[hh] at hx;refine aB (bS _) ?_;simp -implicitDefEqProofs (disch:=omega) only[go_sem];refine aB (bS _) ?_;simp -implicitDefEqProofs (disch:=omega) only[go_sem];have hE:=fun S=>og [bQ qb,bQ x.fName] x.fArgs S hA (by omega) (by simp);simp only[List.map_cons,List.map_nil,eU] at hE;refine aW rfl (hE _) ?_;simp -implicitDefEqProofs (disch:=omega) only[go_sem];rw[hx];rfl
  have k4:=h
  with_reducible refine aC (fun hb=> ?_) (fun hb=> ?_)<;>have h:=hb<;>(try simp only[wf_preprocess] at h)<;>simp -implicitDefEqProofs (disch:=omega) only[go_sem,hb]<;>(repeat(with_reducible refine And.intro ?_ ?_;focus first|omega|rfl|assumption|exact⟨_,rfl,rfl⟩|(simp;omega)|(simp;done)))
  ·have hx:=uz k1 k2 k3 (by omega)
   have hh:jZ x.aV x.bW x.fName x.fType=[bQ jF,bQ x.bW,bQ x.fName]:=by rw[rR h];rfl
   rw[hh] at hx;refine aB (bS _) ?_;simp -implicitDefEqProofs (disch:=omega) only[go_sem];refine aB (bS _) ?_;simp -implicitDefEqProofs (disch:=omega) only[go_sem];refine aB (bS _) ?_;simp -implicitDefEqProofs (disch:=omega) only[go_sem];have hE:=fun S=>og [bQ jF,bQ x.bW,bQ x.fName] x.fArgs S hA (by omega) (by simp);simp only[List.map_cons,List.map_nil,eU] at hE;refine aW rfl (hE _) ?_;simp -implicitDefEqProofs (disch:=omega) only[go_sem];rw[hx];rfl
  have k5:=h
  with_reducible refine aC (fun hb=> ?_) (fun hb=> ?_)<;>have h:=hb<;>(try simp only[wf_preprocess] at h)<;>simp -implicitDefEqProofs (disch:=omega) only[go_sem,hb]<;>(repeat(with_reducible refine And.intro ?_ ?_;focus first|omega|rfl|assumption|exact⟨_,rfl,rfl⟩|(simp;omega)|(simp;done)))
  ·have hx:=uz k1 k2 k3 (by omega)
   have hh:jZ x.aV x.bW x.fName x.fType=[bQ uw,bQ x.fName]:=by rw[rR h];rfl
   rw[hh] at hx;refine aB (bS _) ?_;simp -implicitDefEqProofs (disch:=omega) only[go_sem];refine aB (bS _) ?_;simp -implicitDefEqProofs (disch:=omega) only[go_sem];have hE:=fun S=>og [bQ uw,bQ x.fName] x.fArgs S hA (by omega) (by simp);simp only[List.map_cons,List.map_nil,eU] at hE;refine aW rfl (hE _) ?_;simp -implicitDefEqProofs (disch:=omega) only[go_sem];rw[hx];rfl
  have k6:=h
  with_reducible refine aC (fun hb=> ?_) (fun hb=> ?_)<;>have h:=hb<;>(try simp only[wf_preprocess] at h)<;>simp -implicitDefEqProofs (disch:=omega) only[go_sem,hb]<;>(repeat(with_reducible refine And.intro ?_ ?_;focus first|omega|rfl|assumption|exact⟨_,rfl,rfl⟩|(simp;omega)|(simp;done)))
  ·have hx:=uz k1 k2 k3 (by omega)
   have hh:jZ x.aV x.bW x.fName x.fType=[bQ uy,bQ x.fName]:=by rw[rR h];rfl
   rw[hh] at hx;refine aB (bS _) ?_;simp -implicitDefEqProofs (disch:=omega) only[go_sem];refine aB (bS _) ?_;simp -implicitDefEqProofs (disch:=omega) only[go_sem];have hE:=fun S=>og [bQ uy,bQ x.fName] x.fArgs S hA (by omega) (by simp);simp only[List.map_cons,List.map_nil,eU] at hE;refine aW rfl (hE _) ?_;simp -implicitDefEqProofs (disch:=omega) only[go_sem];rw[hx];rfl
  have k8:=h
  with_reducible refine aC (fun hb=> ?_) (fun hb=> ?_)<;>have h:=hb<;>(try simp only[wf_preprocess] at h)<;>simp -implicitDefEqProofs (disch:=omega) only[go_sem,hb]<;>(repeat(with_reducible refine And.intro ?_ ?_;focus first|omega|rfl|assumption|exact⟨_,rfl,rfl⟩|(simp;omega)|(simp;done)))
  ·have hx:=uz k1 k2 k3 (by omega)
   have hh:jZ x.aV x.bW x.fName x.fType=[bQ zw]:=by rw[rR h];rfl
   rw[hh] at hx;refine aB (bS _) ?_;simp -implicitDefEqProofs (disch:=omega) only[go_sem];have hE:=fun S=>og [bQ zw] x.fArgs S hA (by omega) (by simp);simp only[List.map_cons,List.map_nil,eU] at hE;refine aW rfl (hE _) ?_;simp -implicitDefEqProofs (disch:=omega) only[go_sem];rw[hx];rfl
  have k9:=h
  with_reducible refine aC (fun hb=> ?_) (fun hb=> ?_)<;>have h:=hb<;>(try simp only[wf_preprocess] at h)<;>simp -implicitDefEqProofs (disch:=omega) only[go_sem,hb]<;>(repeat(with_reducible refine And.intro ?_ ?_;focus first|omega|rfl|assumption|exact⟨_,rfl,rfl⟩|(simp;omega)|(simp;done)))
  ·have hx:=uz k1 k2 k3 (by omega)
   have hh:jZ x.aV x.bW x.fName x.fType=[bQ x.fName]:=by rw[rR h];rfl
   rw[hh] at hx;refine aB (bS _) ?_;simp -implicitDefEqProofs (disch:=omega) only[go_sem];have hE:=fun S=>og [bQ x.fName] x.fArgs S hA (by omega) (by simp);simp only[List.map_cons,List.map_nil,eU] at hE;refine aW rfl (hE _) ?_;simp -implicitDefEqProofs (disch:=omega) only[go_sem];rw[hx];rfl
  have k10:=h
  with_reducible refine aC (fun hb=> ?_) (fun hb=> ?_)<;>have h:=hb<;>(try simp only[wf_preprocess] at h)<;>simp -implicitDefEqProofs (disch:=omega) only[go_sem,hb]<;>(repeat(with_reducible refine And.intro ?_ ?_;focus first|omega|rfl|assumption|exact⟨_,rfl,rfl⟩|(simp;omega)|(simp;done)))
  ·have hx:=uz k1 k2 k3 (by omega)
   have hh:jZ x.aV x.bW x.fName x.fType=[bQ qc,bQ x.bW]:=by rw[rR h];rfl
   rw[hh] at hx;refine aB (bS _) ?_;simp -implicitDefEqProofs (disch:=omega) only[go_sem];refine aB (bS _) ?_;simp -implicitDefEqProofs (disch:=omega) only[go_sem];have hE:=fun S=>og [bQ qc,bQ x.bW] x.fArgs S hA (by omega) (by simp);simp only[List.map_cons,List.map_nil,eU] at hE;refine aW rfl (hE _) ?_;simp -implicitDefEqProofs (disch:=omega) only[go_sem];rw[hx];rfl
  have k11:=h
  with_reducible refine aC (fun hb=> ?_) (fun hb=> ?_)<;>have h:=hb<;>(try simp only[wf_preprocess] at h)<;>simp -implicitDefEqProofs (disch:=omega) only[go_sem,hb]<;>(repeat(with_reducible refine And.intro ?_ ?_;focus first|omega|rfl|assumption|exact⟨_,rfl,rfl⟩|(simp;omega)|(simp;done)))
  ·have hx:=uz k1 k2 k3 (by omega)
   have hh:jZ x.aV x.bW x.fName x.fType=[bQ tq,dU x.fType]:=by rw[rR h];rfl
   rw[hh] at hx;refine aB (bS _) ?_;simp -implicitDefEqProofs (disch:=omega) only[go_sem];refine aB (jX x.fType (by omega)) ?_;simp -implicitDefEqProofs (disch:=omega) only[go_sem];have hE:=fun S=>og [bQ tq,dU x.fType] x.fArgs S hA (by omega) (by simp);simp only[List.map_cons,List.map_nil,eU,au.aj (dU x.fType)] at hE;refine aW rfl (hE _) ?_;simp -implicitDefEqProofs (disch:=omega) only[go_sem];rw[hx];show _=V.agg [.d (.s []),.d (.sl (List.map au.enc (bQ tq::dU x.fType::x.fArgs.map fM)))];simp only[List.cons_append,List.nil_append,List.map_cons,eU,au.aj (dU x.fType)];rfl
  have k12:=h
  have hk7:x.aV=7:=by have:=hfi.1;omega
  have hx:=RU x;rw[if_neg k1,if_neg k2,if_neg k3,if_neg (by omega)] at hx
  have hh:jZ x.aV x.bW x.fName x.fType=[bQ lV]:=by rw[rR hk7];rfl
  rw[hh] at hx;refine aB (bS _) ?_;simp -implicitDefEqProofs (disch:=omega) only[go_sem];have hE:=fun cB Ω=>RV [bQ lV] x.fArgs cB Ω hA (by omega) (by simp);obtain⟨B,hB⟩:∃B:Nat->List (List D),B=fun i=>(([bQ lV]++x.fArgs.map fM)++(x.bP.map DV).take i).map au.enc:=⟨_,rfl⟩
  have hB0:([bQ lV]++x.fArgs.map fM).map au.enc=B 0:=by rw[hB];simp only[List.take_zero,List.append_nil]
  have hBl:∀i,(B i).length<=i+x.fArgs.length+1:=fun i=>by
   rw[hB];simp only[List.length_append,List.length_map,List.length_cons,List.length_nil];have:=List.length_take_le i (x.bP.map DV);omega
  have hBr:∀i,∀r∈B i,r.length=2:=fun i=>by rw[hB];exact jf
  have hBs:∀i (hi:i<x.bP.length),B i++[[.s [],.sl (([bQ x.bP[i].fP]++cZ x.bP[i].aU++[fM x.bP[i].fBody]).map au.enc)]]=B (i+1):=fun i hi=>by
   have:=iN (base:=[bQ lV]++x.fArgs.map fM) (l:=x.bP.map DV) (i:=i) (by rw[List.length_map];exact hi);rw[List.getElem_map,ai4,lD,iw] at this;rw[hB];exact this
  have hBe:B x.bP.length=([bQ lV]++x.fArgs.map fM++x.bP.map DV).map au.enc:=by rw[hB];simp only;rw[List.take_of_length_le (by simp)]
  clear hB;simp only[hB0] at hE;simp only[List.map_cons,List.map_nil,eU] at hE;refine aW rfl (hE _ _) ?_;simp -implicitDefEqProofs (disch:=omega) only[go_sem]
  refine bN (ι:=Nat) zmx rfl [1,2,3,4] (fun i=>[.c (.ptr (0,0) 0),.c (.ptr (0,1) 0),.c (.ptr (0,5) 0),.c (.d (.i .i64 i))])
   (fun i=>[.box [.d (.i .i64 x.aV),.d (.s x.bW),.d (.s x.fName),.d (.i .i64 x.fN),.d (.i .i64 x.fType.aV),.d (.s x.fType.fName),.d (.sl (x.fType.fArgs.map ay.enc)),.d (.sl (x.fArgs.map aD.enc)),.d (.sl (x.bP.map bE.enc))],.box [.d (.s []),.bM []],.box [.d (.s []),.bV (0,4) (B 0)],.box [.d (.s []),.bV (0,4) (B 0)],.tok 2 (B i),.box [.d (.s []),.bV (0,4) (B i)]]::S)
   (fun i=>i<=x.bP.length) (fun i=>x.bP.length-i) 0 rfl rfl (Nat.zero_le _) ?_
  intro i hi;have hl:=hBl i;have hr:=hBr i;simp -implicitDefEqProofs (disch:=omega) only[go_sem]
  with_reducible refine aC (fun hb=> ?_) (fun hb=> ?_)<;>have h:=hb<;>(try simp only[wf_preprocess] at h)<;>simp -implicitDefEqProofs (disch:=omega) only[go_sem,hb]<;>(repeat(with_reducible refine And.intro ?_ ?_;focus first|omega|rfl|assumption|exact⟨_,rfl,rfl⟩|(simp;omega)|(simp;done)))
  ·have hi':i<x.bP.length:=by omega
   have hm:=List.getElem_mem hi';have hez:=Yh hm;have hea:=Co x.bP[i];have hs:=hBs i hi';have hak:=hom _ hm;rw[yj,Bool.and_eq_true,Bool.and_eq_true] at hak;have hls:=List.sizeOf_lt_of_mem hm;have hlb:=bE.AA x.bP[i]
   (repeat(with_reducible refine And.intro ?_ ?_;focus first|omega|rfl|assumption|exact⟨_,rfl,rfl⟩|(simp;omega)|(simp;done)))
   refine aB (bS _) ?_;simp -implicitDefEqProofs (disch:=omega) only[go_sem]
   (repeat(with_reducible refine And.intro ?_ ?_;focus first|omega|rfl|assumption|exact⟨_,rfl,rfl⟩|(simp;omega)|(simp;done)))
   refine aB (GQ x.bP[i].aU (by omega)) ?_;have hwr:=jf (l:=cZ x.bP[i].aU)
   have hwl:(cZ x.bP[i].aU).length=x.bP[i].aU.length:=by rw[kR]
   simp -implicitDefEqProofs (disch:=omega) only[go_sem]
   (repeat(with_reducible refine And.intro ?_ ?_;focus first|omega|rfl|assumption|exact⟨_,rfl,rfl⟩|(simp;omega)|(simp;done)))
   refine aB (ih x.bP[i].fBody (by omega) hak.2.2 (by omega)) ?_;simp -implicitDefEqProofs (disch:=omega) only[go_sem]
   (repeat(with_reducible refine And.intro ?_ ?_;focus first|omega|rfl|assumption|exact⟨_,rfl,rfl⟩|(simp;omega)|(simp;done)))
   simp only[List.cons_append,List.nil_append,List.map_cons,List.map_nil,List.map_append,eU,au.aj (fM x.bP[i].fBody)] at hs;rw[hs];exact fu 6 (by decide) (i+1) (by omega) rfl rfl rfl rfl (by omega)
  ·have hi':i=x.bP.length:=by omega
   subst hi';rw[hx,hBe];rfl
theorem rA(x:aD)(hok:iY x=true)(hsz:x.sz<=4194304):aX prog 270 [x.v] (fM x).v:=LJ _ x (Nat.lt_succ_self _) hok hsz
theorem RX{x:aD}(h:wo x=true):iY x=true:=by rw[wo,Bool.and_eq_true] at h;exact h.2
noncomputable def EO(k:Int)(n:List UInt8)(bound out:List (List UInt8)):List (List UInt8):=if k=3/\n∉bound/\n∉out then out++[n] else out
mutual
noncomputable def mZ:aD->List (List UInt8)->List (List UInt8)->List (List UInt8)
 | .mk k _ n _ _ a b,bound,out=>xw b bound (uL a k n 0 bound (EO k n bound out))
noncomputable def uL:List aD->Int->List UInt8->Nat->List (List UInt8)->List (List UInt8)->List (List UInt8)
 |[],_,_,_,_,out=>out
 |x::xs,k,n,i,bound,out=>uL xs k n (i+1) bound (mZ x (if k=8/\i=1 then bound++[n] else bound) out)
noncomputable def xw:List bE->List (List UInt8)->List (List UInt8)->List (List UInt8)
 |[],_,out=>out
 |x::xs,bound,out=>xw xs bound (EP x bound out)
noncomputable def EP:bE->List (List UInt8)->List (List UInt8)->List (List UInt8)
 | .mk _ v b,bound,out=>mZ b (bound++v) out
end
theorem aes(x:aD)(bound out:List (List UInt8)):mZ x bound out=xw x.bP bound (uL x.fArgs x.aV x.fName 0 bound (EO x.aV x.fName bound out)):=by cases x;rw[mZ];rfl
theorem aeu(x:bE)(bound out:List (List UInt8)):EP x bound out=mZ x.fBody (bound++x.aU) out:=by cases x;rw[EP];rfl
theorem Yi{xs:List aD}{k:Int}{n:List UInt8}{i:Nat}{bound out:List (List UInt8)}(hi:i<xs.length):uL (xs.drop i) k n i bound out=uL (xs.drop (i+1)) k n (i+1) bound (mZ xs[i] (if k=8/\i=1 then bound++[n] else bound) out):=by
 rw[List.drop_eq_getElem_cons hi,uL]
theorem Yj{xs:List bE}{i:Nat}{bound out:List (List UInt8)}(hi:i<xs.length):xw (xs.drop i) bound out=xw (xs.drop (i+1)) bound (EP xs[i] bound out):=by
 rw[List.drop_eq_getElem_cons hi,xw]
theorem RY(k:Int)(n:List UInt8)(bound out:List (List UInt8)):(EO k n bound out).length<=out.length+1:=by
 unfold EO;split<;>simp
mutual
theorem zx:∀(x:aD)(bound out:List (List UInt8)),(mZ x bound out).length<=out.length+x.cnt
 | .mk k t n m ty a b,bound,out=>by
   have h1:=RY k n bound out;have h2:=Oz a k n 0 bound (EO k n bound out);have h3:=OA b bound (uL a k n 0 bound (EO k n bound out));rw[mZ,aD.cnt];omega
theorem Oz:∀(xs:List aD)(k:Int)(n:List UInt8)(i:Nat)(bound out:List (List UInt8)),(uL xs k n i bound out).length<=out.length+aD.fB xs
 |[],k,n,i,bound,out=>by rw[uL,aD.fB];omega
 |x::xs,k,n,i,bound,out=>by
  have h1:=zx x (if k=8/\i=1 then bound++[n] else bound) out;have h2:=Oz xs k n (i+1) bound (mZ x (if k=8/\i=1 then bound++[n] else bound) out);rw[uL,aD.fB];omega
theorem OA:∀(xs:List bE)(bound out:List (List UInt8)),(xw xs bound out).length<=out.length+bE.fB xs
 |[],bound,out=>by rw[xw,bE.fB];omega
 |x::xs,bound,out=>by
  have h1:=aa6 x bound out;have h2:=OA xs bound (EP x bound out);rw[xw,bE.fB];omega
theorem aa6:∀(x:bE)(bound out:List (List UInt8)),(EP x bound out).length<=out.length+x.cnt
 | .mk c v b,bound,out=>by
   have h1:=zx b (bound++v) out;rw[EP,bE.cnt];omega
end
theorem aD.DN{x:aD}{i:Nat}(hi:i<x.fArgs.length):x.fArgs[i].sz+x.fArgs.length<=x.sz:=by
 have hx:x.fArgs[i].sz<=aQ (x.fArgs.map aD.enc):=dO (List.mem_map_of_mem (List.getElem_mem hi));have:=aD.JN x;omega
theorem aD.ai9{x:aD}{i:Nat}(hi:i<x.bP.length):x.bP[i].sz+x.bP.length<=x.sz:=by
 have hx:x.bP[i].sz<=aQ (x.bP.map bE.enc):=dO (List.mem_map_of_mem (List.getElem_mem hi));have:=aD.JN x;omega
theorem bE.ahb(x:bE):x.aU.length+x.fBody.sz<=x.sz:=by
 simp only[bE.sz,bE.aj,aD.sz,bG,bC,D.sz,List.length_map];omega
theorem Yk(xs:List (List UInt8))(s:List UInt8):xs.map encS++[[D.s s]]=(xs++[s]).map encS:=by simp[encS]
theorem GV:∀N:Nat,∀x:aD,SizeOf.sizeOf x<N->x.sz<=4194304->∀(bound out:List (List UInt8))(l j:Nat)(S:Store),bn S (l,j)=some (.tok 1 (out.map encS))->out.length+x.cnt<=1073741824->bound.length+x.sz<=1073741824->
 bY prog 213 [x.v,.c (.d (.sl (bound.map encS))),.c (.bV (l,j) (out.map encS))] S (fun r S'=>r=.c (.bV (l,j) ((mZ x bound out).map encS))/\S'=aY S (l,j) (.tok 1 ((mZ x bound out).map encS)))
 |0=>fun x h=>by omega
 |N+1=>by
  have ih:=GV N;intro x hn hsz bound out l j S hk hc hbd;have hb0:=aD.JN x;have nO:=aD.j3 x;have PU:=aD.Dz x;have hcn:=aD.zi x;have hkS:∀y:Ab.Obj,bn (aY S (l,j) y) (l,j)=some y:=fun y=>cO _ _ _ _ hk;have hS0:aY S (l,j) (.tok 1 (out.map encS))=S:=Cc _ _ hk;have fin:=aes x bound out;have hal:=RY x.aV x.fName bound out;obtain⟨o1,ho1⟩:∃o1,EO x.aV x.fName bound out=o1:=⟨_,rfl⟩;rw[ho1] at fin hal;refine(show Hold ?T->_ from fun tail=> ?main) ?tp
  case' main=>
   refine zcx [.tmp 6] func213 ntmps213 ?_;simp -implicitDefEqProofs (disch:=omega) only[go_sem,hk]
   repeat' (first
    |(with_reducible refine aC (fun hb=> ?_) (fun hb=> ?_)<;>have h:=hb<;>(try simp only[wf_preprocess] at h)<;>simp -implicitDefEqProofs (disch:=omega) only[go_sem,hb,hk]<;>(repeat(with_reducible refine And.intro ?_ ?_;focus first|omega|rfl|assumption|exact⟨_,rfl,rfl⟩|(simp;omega)|(simp;done))))
    |(refine aB (oF bound x.fName (by omega)) ?_;simp -implicitDefEqProofs (disch:=omega) only[go_sem,hk];(repeat(with_reducible refine And.intro ?_ ?_;focus first|omega|rfl|assumption|exact⟨_,rfl,rfl⟩|(simp;omega)|(simp;done))))
    |(refine aB (oF out x.fName (by omega)) ?_;simp -implicitDefEqProofs (disch:=omega) only[go_sem,hk];(repeat(with_reducible refine And.intro ?_ ?_;focus first|omega|rfl|assumption|exact⟨_,rfl,rfl⟩|(simp;omega)|(simp;done)))))
   all_goals first
    |(have ha:EO x.aV x.fName bound out=out++[x.fName]:=if_pos ⟨by assumption,by assumption,by assumption⟩)
    |(have ha:EO x.aV x.fName bound out=out:=if_neg (fun y=>by have:=y.1;have:=y.2.1;have:=y.2.2;contradiction))
   all_goals
    refine Bt (st':=[.box (x.enc.map .d)]::aY S (l,j) (.tok 1 (o1.map encS))) [1,2,3,7] [.c (.d (.sl (bound.map encS))),.c (.bV (1+l,j) (o1.map encS)),.c (.ptr (0,0) 0),.c (.d (.i .i64 0))] ?_ ?_ ?_
    ·first|(rw[<-ho1,ha];rfl)|(rw[<-ho1,ha,<-Yk];rfl)
    ·first|(rw[<-ho1,ha,hS0];simp -implicitDefEqProofs (disch:=omega) only[go_sem];done)|(rw[<-ho1,ha,<-Yk];simp -implicitDefEqProofs (disch:=omega) only[go_sem];done)
    ·exact tail.out
  refine⟨?_⟩;clear ho1
  refine bN (ι:=Nat×List (List UInt8)) zmx rfl [1,2,3,7] (fun y=>[.c (.d (.sl (bound.map encS))),.c (.bV (1+l,j) (y.2.map encS)),.c (.ptr (0,0) 0),.c (.d (.i .i64 y.1))]) (fun y=>[.box (x.enc.map .d)]::aY S (l,j) (.tok 1 (y.2.map encS)))
   (fun y=>y.1<=x.fArgs.length/\y.2.length+aD.fB (x.fArgs.drop y.1)+bE.fB x.bP<=1073741824/\uL (x.fArgs.drop y.1) x.aV x.fName y.1 bound y.2=uL x.fArgs x.aV x.fName 0 bound o1) (fun y=>x.fArgs.length-y.1) (0,o1) rfl rfl ⟨Nat.zero_le _,by simp only[List.drop_zero];omega,rfl⟩ ?_
  rintro⟨i,o⟩ ⟨p1,p2,p3⟩
  have refs:∀{a b},wV 1 (mX [1,2,3,7] [.c (.d (.sl (bound.map encS))),.c (.bV (1+l,j) a),.c (.ptr (0,0) 0),.c (.d (.i .i64 b))])=true:=fun {a b}=>by simp[wV,mX,V.refs,C.refs,sZ];omega
  simp only at p1 p2 p3;simp -implicitDefEqProofs (disch:=omega) only[go_sem]
  with_reducible refine aC (fun hb=> ?_) (fun hb=> ?_)<;>have h:=hb<;>(try simp only[wf_preprocess] at h)<;>simp -implicitDefEqProofs (disch:=omega) only[go_sem,hb]<;>(repeat(with_reducible refine And.intro ?_ ?_;focus first|omega|rfl|assumption|exact⟨_,rfl,rfl⟩|(simp;omega)|(simp;done)))
  ·have hi:i<x.fArgs.length:=by omega
   have hs:=List.sizeOf_lt_of_mem (List.getElem_mem hi);have hz:=aD.DN hi;rw[Yi hi] at p3;rw[aD.qY hi] at p2;have hlo:=zx x.fArgs[i] (if x.aV=8/\i=1 then bound++[x.fName] else bound) o
   have two:x.fArgs[i].sz+(bound.length+1)<=1073741824:=by omega
   repeat' (first|with_reducible refine aC (fun hb=> ?_) (fun hb=> ?_)<;>have h:=hb<;>(try simp only[wf_preprocess] at h)<;>simp -implicitDefEqProofs (disch:=omega) only[go_sem,hb]<;>(repeat(with_reducible refine And.intro ?_ ?_;focus first|omega|rfl|assumption|exact⟨_,rfl,rfl⟩|(simp;omega)|(simp;done))))
   ·have e1:x.aV=8/\i=1:=⟨by omega,by omega⟩;rw[if_pos e1] at p3 hlo;refine⟨J3,⟨_,rfl,rfl⟩,fun y hy=>(by cases hy),by omega,?_⟩
    (repeat(with_reducible refine And.intro ?_ ?_;focus first|omega|rfl|assumption|exact⟨_,rfl,rfl⟩|(simp;omega)|(simp;done)))
    rw[Yk];refine cu [true,false,true] rfl (ih x.fArgs[i] (by omega) (by omega) (bound++[x.fName]) o (1+l) j _ (by simp -implicitDefEqProofs (disch:=omega) only[go_sem];exact hkS _) (by omega) (by simp only[List.length_append,List.length_cons,List.length_nil];omega)) ?_;simp -implicitDefEqProofs (disch:=omega) only[go_sem,ah];exact fu 1 (by decide) (i+1,mZ x.fArgs[i] (bound++[x.fName]) o) (by simp only;omega) rfl rfl refs rfl ⟨by simp only;omega,by simp only;omega,p3⟩
   all_goals
    have e1:¬(x.aV=8/\i=1):=fun h=>by omega
    rw[if_neg e1] at p3 hlo
    (repeat(with_reducible refine And.intro ?_ ?_;focus first|omega|rfl|assumption|exact⟨_,rfl,rfl⟩|(simp;omega)|(simp;done)))
    refine aW rfl (ih x.fArgs[i] (by omega) (by omega) bound o (1+l) j _ (by simp -implicitDefEqProofs (disch:=omega) only[go_sem];exact hkS _) (by omega) (by omega)) ?_;simp -implicitDefEqProofs (disch:=omega) only[go_sem,ah];exact fu 1 (by decide) (i+1,mZ x.fArgs[i] bound o) (by simp only;omega) rfl rfl refs rfl ⟨by simp only;omega,by simp only;omega,p3⟩
  have hi:i=x.fArgs.length:=by omega
  rw[hi,List.drop_length] at p2 p3;rw[aD.fB] at p2;rw[uL] at p3;rw[<-p3] at fin;clear p3 refs
  refine bN (ι:=Nat×List (List UInt8)) zmx rfl [1,2,3,9] (fun y=>[.c (.d (.sl (bound.map encS))),.c (.bV (1+l,j) (y.2.map encS)),.c (.ptr (0,0) 0),.c (.d (.i .i64 y.1))]) (fun y=>[.box (x.enc.map .d)]::aY S (l,j) (.tok 1 (y.2.map encS)))
   (fun y=>y.1<=x.bP.length/\y.2.length+bE.fB (x.bP.drop y.1)<=1073741824/\xw (x.bP.drop y.1) bound y.2=mZ x bound out) (fun y=>x.bP.length-y.1) (0,o) rfl ?_ ⟨Nat.zero_le _,by simp only[List.drop_zero];omega,fin.symm⟩ ?_
  ·simp -implicitDefEqProofs (disch:=omega) only[go_sem]
  clear p1 p2 fin hal;rintro⟨i,o⟩ ⟨p1,p2,p3⟩
  have refs:∀a b,wV 1 (mX [1,2,3,9] [.c (.d (.sl (bound.map encS))),.c (.bV (1+l,j) a),.c (.ptr (0,0) 0),.c (.d (.i .i64 b))])=true:=fun a b=>by simp[wV,mX,V.refs,C.refs,sZ];omega
  simp only at p1 p2 p3;simp -implicitDefEqProofs (disch:=omega) only[go_sem]
  with_reducible refine aC (fun hb=> ?_) (fun hb=> ?_)<;>have h:=hb<;>(try simp only[wf_preprocess] at h)<;>simp -implicitDefEqProofs (disch:=omega) only[go_sem,hb]<;>(repeat(with_reducible refine And.intro ?_ ?_;focus first|omega|rfl|assumption|exact⟨_,rfl,rfl⟩|(simp;omega)|(simp;done)))
  ·have hi:i<x.bP.length:=by omega
   have hs:=List.sizeOf_lt_of_mem (List.getElem_mem hi);have hs':=bE.AA x.bP[i];have hz:=aD.ai9 hi;have hz':=bE.ahb x.bP[i];rw[Yj hi,aeu] at p3;rw[bE.qY hi] at p2;have hlo:=zx x.bP[i].fBody (bound++x.bP[i].aU) o;refine⟨J3,⟨_,rfl,rfl⟩,fun y hy=>(by cases hy),by omega,⟨by omega,hi⟩,J3,⟨_,rfl,rfl⟩,by omega,?_⟩;rw[<-List.map_append];refine cu [true,false,true] rfl (ih x.bP[i].fBody (by omega) (by omega) (bound++x.bP[i].aU) o (1+l) j _ (by simp -implicitDefEqProofs (disch:=omega) only[go_sem];exact hkS _) (by omega) (by simp only[List.length_append];omega)) ?_;simp -implicitDefEqProofs (disch:=omega) only[go_sem,ah];exact fu 1 (by decide) (i+1,mZ x.bP[i].fBody (bound++x.bP[i].aU) o) (by simp only;omega) rfl rfl (refs _ _) rfl ⟨by simp only;omega,by simp only;omega,p3⟩
  ·have hi:i=x.bP.length:=by omega
   rw[hi,List.drop_length,xw] at p3;rw[<-p3];exact⟨rfl,rfl⟩
theorem LK(x:aD)(hsz:x.sz<=4194304):aX prog 189 [x.v] (.c (.d (.sl ((mZ x [] []).map encS)))):=fun S=>by
 have hc:=aD.pR x
 have h0:∀S,bY prog 213 [x.v,.c (.d (.sl [])),.c (.bM [])] S (fun r S'=>r=.c (.d (.sl ((mZ x [] []).map encS)))/\S'=S):=fun S=>by
  refine bY.aiC 2 (es:=[]) (bB:=1) rfl (by simp) (GV _ x (Nat.lt_succ_self _) hsz [] [] 0 0 ([.tok 1 []]::S) rfl (by simp;omega) (by simp;omega)) ?_;rintro r fr S' ⟨rfl,h2⟩;injection h2 with h2 h3;exact⟨_,rfl,rfl,h3⟩
 refine zcx [.tmp 2] func189 ntmps189 ?_;simp -implicitDefEqProofs (disch:=omega) only[go_sem]
 (repeat(with_reducible refine And.intro ?_ ?_;focus first|omega|rfl|assumption|exact⟨_,rfl,rfl⟩|(simp;omega)|(simp;done)))
 refine cu [true,false,true] rfl (h0 _) ?_;simp -implicitDefEqProofs (disch:=omega) only[go_sem]
theorem aD.J4{x:aD}(h:x.sz<=4194304):x.bW.length<=4194304/\x.fName.length<=4194304/\x.fType.sz<=4194304/\x.fArgs.length<=4194304/\x.bP.length<=4194304:=by
 simp only[aD.sz,aD.aj,bG,bC,D.sz,List.length_map,ay.cK] at h;omega
theorem aD.ak3{x:aD}{i:Nat}(hi:i<x.fArgs.length)(h:x.sz<=4194304):x.fArgs[i].sz<=4194304:=by
 have hx:x.fArgs[i].sz<=aQ (x.fArgs.map aD.enc):=dO (List.mem_map_of_mem (List.getElem_mem hi));simp only[aD.sz,aD.aj,bG,bC,D.sz,List.length_map,ay.cK] at h;omega
theorem aD.ak4{x:aD}{i:Nat}(hi:i<x.bP.length)(h:x.sz<=4194304):x.bP[i].sz<=4194304:=by
 have hx:x.bP[i].sz<=aQ (x.bP.map bE.enc):=dO (List.mem_map_of_mem (List.getElem_mem hi));simp only[aD.sz,aD.aj,bG,bC,D.sz,List.length_map,ay.cK] at h;omega
theorem bE.J4{x:bE}(h:x.sz<=4194304):x.fP.length<=4194304/\x.aU.length<=4194304/\x.fBody.sz<=4194304:=by
 simp only[bE.sz,bE.aj,bG,bC,D.sz,List.length_map,aD.cK] at h;omega
theorem zW:∀n:Nat,∀x:aD,SizeOf.sizeOf x<n->∀y:aD,x.sz<=4194304->aX prog 208 [x.v,y.v] (.c (.d (.b (dec (x=y)))))
 |0=>fun x h=>by omega
 |n+1=>by
  have ih:=zW n;intro x hn y hsz S;have nO:=aD.j3 x;have PU:=aD.Dz x;have hb0:=aD.J4 hsz;refine zcx [.tmp 4] func208 ntmps208 ?_;simp -implicitDefEqProofs (disch:=omega) only[go_sem]
  with_reducible refine aC (fun hb=> ?_) (fun hb=> ?_)<;>have h:=hb<;>(try simp only[wf_preprocess] at h)<;>simp -implicitDefEqProofs (disch:=omega) only[go_sem,hb]<;>(repeat(with_reducible refine And.intro ?_ ?_;focus first|omega|rfl|assumption|exact⟨_,rfl,rfl⟩|(simp;omega)|(simp;done)))
  ·exact bL (bJ (fun e=>h (by rw[e]))).symm
  have h1:=h
  with_reducible refine aC (fun hb=> ?_) (fun hb=> ?_)<;>have h:=hb<;>(try simp only[wf_preprocess] at h)<;>simp -implicitDefEqProofs (disch:=omega) only[go_sem,hb]<;>(repeat(with_reducible refine And.intro ?_ ?_;focus first|omega|rfl|assumption|exact⟨_,rfl,rfl⟩|(simp;omega)|(simp;done)))
  ·exact bL (bJ (fun e=>h (by rw[e]))).symm
  have h2:=h
  with_reducible refine aC (fun hb=> ?_) (fun hb=> ?_)<;>have h:=hb<;>(try simp only[wf_preprocess] at h)<;>simp -implicitDefEqProofs (disch:=omega) only[go_sem,hb]<;>(repeat(with_reducible refine And.intro ?_ ?_;focus first|omega|rfl|assumption|exact⟨_,rfl,rfl⟩|(simp;omega)|(simp;done)))
  ·exact bL (bJ (fun e=>h (by rw[e]))).symm
  have h3:=h
  with_reducible refine aC (fun hb=> ?_) (fun hb=> ?_)<;>have h:=hb<;>(try simp only[wf_preprocess] at h)<;>simp -implicitDefEqProofs (disch:=omega) only[go_sem,hb]<;>(repeat(with_reducible refine And.intro ?_ ?_;focus first|omega|rfl|assumption|exact⟨_,rfl,rfl⟩|(simp;omega)|(simp;done)))
  ·exact bL (bJ (fun e=>h (by rw[e]))).symm
  have h4:=h;refine aB (J2 x.fType y.fType (by omega)) ?_;simp -implicitDefEqProofs (disch:=omega) only[go_sem]<;>(repeat(with_reducible refine And.intro ?_ ?_;focus first|omega|rfl|assumption|exact⟨_,rfl,rfl⟩|(simp;omega)|(simp;done)))
  with_reducible refine aC (fun hb=> ?_) (fun hb=> ?_)<;>have h:=hb<;>(try simp only[wf_preprocess] at h)<;>simp -implicitDefEqProofs (disch:=omega) only[go_sem,hb]<;>(repeat(with_reducible refine And.intro ?_ ?_;focus first|omega|rfl|assumption|exact⟨_,rfl,rfl⟩|(simp;omega)|(simp;done)))
  ·exact bL (bJ (fun e=>h (by rw[e]))).symm
  have h5:=h
  with_reducible refine aC (fun hb=> ?_) (fun hb=> ?_)<;>have h:=hb<;>(try simp only[wf_preprocess] at h)<;>simp -implicitDefEqProofs (disch:=omega) only[go_sem,hb]<;>(repeat(with_reducible refine And.intro ?_ ?_;focus first|omega|rfl|assumption|exact⟨_,rfl,rfl⟩|(simp;omega)|(simp;done)))
  ·exact bL (bJ (fun e=>h (by rw[e]))).symm
  have h6:x.fArgs.length=y.fArgs.length:=by omega
  with_reducible refine aC (fun hb=> ?_) (fun hb=> ?_)<;>have h:=hb<;>(try simp only[wf_preprocess] at h)<;>simp -implicitDefEqProofs (disch:=omega) only[go_sem,hb]<;>(repeat(with_reducible refine And.intro ?_ ?_;focus first|omega|rfl|assumption|exact⟨_,rfl,rfl⟩|(simp;omega)|(simp;done)))
  ·exact bL (bJ (fun e=>h (by rw[e]))).symm
  have h7:x.bP.length=y.bP.length:=by omega
  refine bN (ι:=Nat) zmx rfl [2,3,5] (fun i=>[.c (.ptr (0,0) 0),.c (.ptr (0,1) 0),.c (.d (.i .i64 i))]) (fun _=>[.box (x.enc.map .d),.box (y.enc.map .d)]::S)
   (fun i=>i<=x.fArgs.length/\∀j,j<i->x.fArgs[j]? =y.fArgs[j]?) (fun i=>x.fArgs.length-i) 0 rfl ?_ ⟨Nat.zero_le _,fun j h=>by omega⟩ ?_
  ·simp -implicitDefEqProofs (disch:=omega) only[go_sem]
  rintro i ⟨p1,p2⟩;simp -implicitDefEqProofs (disch:=omega) only[go_sem]
  with_reducible refine aC (fun hb=> ?_) (fun hb=> ?_)<;>have h:=hb<;>(try simp only[wf_preprocess] at h)<;>simp -implicitDefEqProofs (disch:=omega) only[go_sem,hb]<;>(repeat(with_reducible refine And.intro ?_ ?_;focus first|omega|rfl|assumption|exact⟨_,rfl,rfl⟩|(simp;omega)|(simp;done)))
  ·have hi:i<x.fArgs.length:=by omega
   have hi':i<y.fArgs.length:=by omega
   (repeat(with_reducible refine And.intro ?_ ?_;focus first|omega|rfl|assumption|exact⟨_,rfl,rfl⟩|(simp;omega)|(simp;done)))
   refine aB (ih x.fArgs[i] (by have:=List.sizeOf_lt_of_mem (List.getElem_mem hi);omega) y.fArgs[i] (aD.ak3 hi hsz)) ?_;simp -implicitDefEqProofs (disch:=omega) only[go_sem]<;>(repeat(with_reducible refine And.intro ?_ ?_;focus first|omega|rfl|assumption|exact⟨_,rfl,rfl⟩|(simp;omega)|(simp;done)))
   with_reducible refine aC (fun hb=> ?_) (fun hb=> ?_)<;>have h:=hb<;>(try simp only[wf_preprocess] at h)<;>simp -implicitDefEqProofs (disch:=omega) only[go_sem,hb]<;>(repeat(with_reducible refine And.intro ?_ ?_;focus first|omega|rfl|assumption|exact⟨_,rfl,rfl⟩|(simp;omega)|(simp;done)))
   ·exact bL (bJ (fun e=>h (by simp only[e]))).symm
   refine bT (i+1) (by omega) rfl rfl ⟨by omega,fun j hj=> ?_⟩;by_cases e:j=i
   ·subst e;rw[List.getElem?_eq_getElem hi,List.getElem?_eq_getElem hi',h]
   ·exact p2 j (by omega)
  have hi:i=x.fArgs.length:=by omega
  have h8:x.fArgs=y.fArgs:=List.ext_getElem? fun j=>by
   by_cases hj:j<i
   ·exact p2 j hj
   ·rw[List.getElem?_eq_none (by omega),List.getElem?_eq_none (by omega)]
  refine bN (ι:=Nat) zmx rfl [2,3,6] (fun i=>[.c (.ptr (0,0) 0),.c (.ptr (0,1) 0),.c (.d (.i .i64 i))]) (fun _=>[.box (x.enc.map .d),.box (y.enc.map .d)]::S)
   (fun i=>i<=x.bP.length/\∀j,j<i->x.bP[j]? =y.bP[j]?) (fun i=>x.bP.length-i) 0 rfl ?_ ⟨Nat.zero_le _,fun j h=>by omega⟩ ?_
  ·simp -implicitDefEqProofs (disch:=omega) only[go_sem]
  clear p1 p2 hi hb h;clear i;rintro i ⟨p1,p2⟩;simp -implicitDefEqProofs (disch:=omega) only[go_sem]
  with_reducible refine aC (fun hb=> ?_) (fun hb=> ?_)<;>have h:=hb<;>(try simp only[wf_preprocess] at h)<;>simp -implicitDefEqProofs (disch:=omega) only[go_sem,hb]<;>(repeat(with_reducible refine And.intro ?_ ?_;focus first|omega|rfl|assumption|exact⟨_,rfl,rfl⟩|(simp;omega)|(simp;done)))
  ·have hi:i<x.bP.length:=by omega
   have hi':i<y.bP.length:=by omega
   have hs:=List.sizeOf_lt_of_mem (List.getElem_mem hi);have hz:=bE.J4 (aD.ak4 hi hsz);have aof:=bE.AA x.bP[i]
   (repeat(with_reducible refine And.intro ?_ ?_;focus first|omega|rfl|assumption|exact⟨_,rfl,rfl⟩|(simp;omega)|(simp;done)))
   with_reducible refine aC (fun hb=> ?_) (fun hb=> ?_)<;>have h:=hb<;>(try simp only[wf_preprocess] at h)<;>simp -implicitDefEqProofs (disch:=omega) only[go_sem,hb]<;>(repeat(with_reducible refine And.intro ?_ ?_;focus first|omega|rfl|assumption|exact⟨_,rfl,rfl⟩|(simp;omega)|(simp;done)))
   ·exact bL (bJ (fun e=>h (by simp only[e]))).symm
   have k1:=h
   (repeat(with_reducible refine And.intro ?_ ?_;focus first|omega|rfl|assumption|exact⟨_,rfl,rfl⟩|(simp;omega)|(simp;done)))
   refine aB (Um x.bP[i].aU y.bP[i].aU (by omega)) ?_;simp -implicitDefEqProofs (disch:=omega) only[go_sem]<;>(repeat(with_reducible refine And.intro ?_ ?_;focus first|omega|rfl|assumption|exact⟨_,rfl,rfl⟩|(simp;omega)|(simp;done)))
   with_reducible refine aC (fun hb=> ?_) (fun hb=> ?_)<;>have h:=hb<;>(try simp only[wf_preprocess] at h)<;>simp -implicitDefEqProofs (disch:=omega) only[go_sem,hb]<;>(repeat(with_reducible refine And.intro ?_ ?_;focus first|omega|rfl|assumption|exact⟨_,rfl,rfl⟩|(simp;omega)|(simp;done)))
   ·exact bL (bJ (fun e=>h (by simp only[e]))).symm
   have k2:=h
   (repeat(with_reducible refine And.intro ?_ ?_;focus first|omega|rfl|assumption|exact⟨_,rfl,rfl⟩|(simp;omega)|(simp;done)))
   refine aB (ih x.bP[i].fBody (by omega) y.bP[i].fBody (by omega)) ?_;simp -implicitDefEqProofs (disch:=omega) only[go_sem]<;>(repeat(with_reducible refine And.intro ?_ ?_;focus first|omega|rfl|assumption|exact⟨_,rfl,rfl⟩|(simp;omega)|(simp;done)))
   with_reducible refine aC (fun hb=> ?_) (fun hb=> ?_)<;>have h:=hb<;>(try simp only[wf_preprocess] at h)<;>simp -implicitDefEqProofs (disch:=omega) only[go_sem,hb]<;>(repeat(with_reducible refine And.intro ?_ ?_;focus first|omega|rfl|assumption|exact⟨_,rfl,rfl⟩|(simp;omega)|(simp;done)))
   ·exact bL (bJ (fun e=>h (by simp only[e]))).symm
   have k3:=h;refine bT (i+1) (by omega) rfl rfl ⟨by omega,fun j hj=> ?_⟩;by_cases e:j=i
   ·subst e;rw[List.getElem?_eq_getElem hi,List.getElem?_eq_getElem hi',bE.ext k1 k2 k3]
   ·exact p2 j (by omega)
  ·have hi:i=x.bP.length:=by omega
   have h9:x.bP=y.bP:=List.ext_getElem? fun j=>by
    by_cases hj:j<i
    ·exact p2 j hj
    ·rw[List.getElem?_eq_none (by omega),List.getElem?_eq_none (by omega)]
   exact bL (dD (aD.ext h1 h2 h3 h4 h5 h8 h9)).symm
theorem J5(x y:aD)(h:x.sz<=4194304):aX prog 208 [x.v,y.v] (.c (.d (.b (dec (x=y))))):=zW _ x (Nat.lt_succ_self _) y h
theorem DY:∀n:Nat,∀t:ay,SizeOf.sizeOf t<n->t.sz<=4194304->∀v:List UInt8,aX prog 188 [t.v,.c (.d (.s v))] (.c (.d (.i .i64 (nG v t))))
 |0=>fun t h=>by omega
 |n+1=>by
  have ih:=DY n;intro t hn hsz v S;have nO:=ay.j3 t;have hts:=zn hsz;have hcl:=aaM v t;have hcn:=pR t;have he:=aaL v t;refine zcx [.tmp 4] func188 ntmps188 ?_;simp -implicitDefEqProofs (disch:=omega) only[go_sem]
  repeat' (first|(with_reducible refine aC (fun hb=> ?_) (fun hb=> ?_)<;>have h:=hb<;>(try simp only[wf_preprocess] at h)<;>simp -implicitDefEqProofs (disch:=omega) only[go_sem,hb]<;>(repeat(with_reducible refine And.intro ?_ ?_;focus first|omega|rfl|assumption|exact⟨_,rfl,rfl⟩|(simp;omega)|(simp;done)))))
  all_goals first
   |(have hc:nG v t=1+uK v t.fArgs:=by rw[he,if_pos (by simp only[vZ,decide_eq_true_eq];exact⟨by assumption,by assumption⟩)])
   |(have hc:nG v t=0+uK v t.fArgs:=by rw[he,if_neg (by simp only[vZ,decide_eq_true_eq];exact fun x=>by have:=x.1;have:=x.2;contradiction)])
  all_goals
   refine bN (ι:=Nat×Nat) zmx rfl [1,2,5,6] (fun y=>[.c (.d (.s v)),.c (.ptr (0,0) 0),.c (.d (.i .i64 y.2)),.c (.d (.i .i64 y.1))]) (fun _=>[.box [.d (.i .i64 t.aV),.d (.s t.fName),.d (.sl (t.fArgs.map ay.enc))]]::S)
    (fun y=>y.1<=t.fArgs.length/\nG v t=y.2+uK v (t.fArgs.drop y.1)) (fun y=>t.fArgs.length-y.1) (0,_) rfl rfl ⟨Nat.zero_le _,hc⟩ ?_
   rintro⟨i,c⟩ ⟨p1,p2⟩;simp only at p1 p2;simp -implicitDefEqProofs (disch:=omega) only[go_sem]
   with_reducible refine aC (fun hb=> ?_) (fun hb=> ?_)<;>have h:=hb<;>(try simp only[wf_preprocess] at h)<;>simp -implicitDefEqProofs (disch:=omega) only[go_sem,hb]<;>(repeat(with_reducible refine And.intro ?_ ?_;focus first|omega|rfl|assumption|exact⟨_,rfl,rfl⟩|(simp;omega)|(simp;done)))
   ·have hi:i<t.fArgs.length:=by omega
    rw[Rv hi] at p2
    (repeat(with_reducible refine And.intro ?_ ?_;focus first|omega|rfl|assumption|exact⟨_,rfl,rfl⟩|(simp;omega)|(simp;done)))
    refine aB (ih t.fArgs[i] (by have:=List.sizeOf_lt_of_mem (List.getElem_mem hi);omega) (wm hi hsz).1 v) ?_;simp -implicitDefEqProofs (disch:=omega) only[go_sem]<;>(repeat(with_reducible refine And.intro ?_ ?_;focus first|omega|rfl|assumption|exact⟨_,rfl,rfl⟩|(simp;omega)|(simp;done)));rw[show(c:Int)+(nG v t.fArgs[i]:Int)=((c+nG v t.fArgs[i]:Nat):Int) by omega];exact bT (i+1,c+nG v t.fArgs[i]) (by simp only;omega) rfl rfl ⟨by simp only;omega,by simp only;omega⟩
   ·have hi:i=t.fArgs.length:=by omega
    rw[hi,List.drop_length] at p2;have h0:uK v []=0:=rfl;exact int_eq (by omega)
theorem zN(v:List UInt8)(t:ay)(hsz:t.sz<=4194304):aX prog 163 [.c (.d (.s v)),t.v] (.c (.d (.b (occurs v t)))):=fun S=>by
 refine zcx [.tmp 4] func163 ntmps163 ?_;simp -implicitDefEqProofs (disch:=omega) only[go_sem];refine aB (DY _ t (Nat.lt_succ_self _) hsz v) ?_;simp -implicitDefEqProofs (disch:=omega) only[go_sem]<;>(repeat(with_reducible refine And.intro ?_ ?_;focus first|omega|rfl|assumption|exact⟨_,rfl,rfl⟩|(simp;omega)|(simp;done)));exact bL (by unfold occurs;rw[Bool.eq_iff_iff];simp only[decide_eq_true_eq];omega)
theorem RZ(v:List UInt8)(rest:List Ab.Obj)(cs:List C)(S:Store):Ip prog 259 [((0,1),0),((0,2),0)] (fun c:Nat=>(.box cs:: .box [.d (.s v)]:: .box [.d (.i .i64 c)]::rest)::S) (fun n c=>c+n<=1073741824) (fun c u=>if vZ v u then c+1 else c) ay.v (fun u=>u.sz<=4194304):=by
 intro n c u hI hu;refine⟨by simp only;split<;>omega,fun F=> ?_⟩
 simp only
 refine zcx [] func259 ntmps259 ?_;simp -implicitDefEqProofs (disch:=omega) only[go_sem]
 repeat' (first|(with_reducible refine aC (fun hb=> ?_) (fun hb=> ?_)<;>have h:=hb<;>(try simp only[wf_preprocess] at h)<;>simp -implicitDefEqProofs (disch:=omega) only[go_sem,hb]<;>(repeat(with_reducible refine And.intro ?_ ?_;focus first|omega|rfl|assumption|exact⟨_,rfl,rfl⟩|(simp;omega)|(simp;done)))))
 all_goals first
  |(rw[if_pos (show vZ v u=true by simp only[vZ,decide_eq_true_eq];exact⟨by assumption,by assumption⟩)];done)
  |(rw[if_pos (show vZ v u=true by simp only[vZ,decide_eq_true_eq];exact⟨by assumption,by assumption⟩)];rfl)
  |(rw[if_neg (show ¬vZ v u=true by simp only[vZ,decide_eq_true_eq];exact fun x=>by have:=x.1;have:=x.2;contradiction)];done)
  |(rw[if_neg (show ¬vZ v u=true by simp only[vZ,decide_eq_true_eq];exact fun x=>by have:=x.1;have:=x.2;contradiction)];rfl)
theorem Pt(t:ay)(hsz:t.sz<=4194304)(v:List UInt8):aX prog 244 [t.v,.c (.d (.s v))] (.c (.d (.i .i64 (nG v t)))):=fun S=>by
 have hcn:=pR t;refine zcx [.tmp 4] func244 ntmps244 ?_;simp -implicitDefEqProofs (disch:=omega) only[go_sem]
 (repeat(with_reducible refine And.intro ?_ ?_;focus first|omega|rfl|assumption|exact⟨_,rfl,rfl⟩|(simp;omega)|(simp;done)))
 refine aW rfl (Uk hsz (RZ v [] [.d (.i .i64 t.aV),.d (.s t.fName),.d (.sl (t.fArgs.map ay.enc))] S) 0 0 (by omega)).2 ?_;simp -implicitDefEqProofs (disch:=omega) only[go_sem];rw[Jg,Nat.zero_add];rfl
theorem FK(v:List UInt8)(t:ay)(hsz:t.sz<=4194304):aX prog 223 [.c (.d (.s v)),t.v] (.c (.d (.b (occurs v t)))):=fun S=>by
 refine zcx [.tmp 4] func223 ntmps223 ?_;simp -implicitDefEqProofs (disch:=omega) only[go_sem];refine aB (Pt t hsz v) ?_;simp -implicitDefEqProofs (disch:=omega) only[go_sem]<;>(repeat(with_reducible refine And.intro ?_ ?_;focus first|omega|rfl|assumption|exact⟨_,rfl,rfl⟩|(simp;omega)|(simp;done)));exact bL (by unfold occurs;rw[Bool.eq_iff_iff];simp only[decide_eq_true_eq];omega)
def zeroE:aD:=.mk 0 [] [] 0 (.mk 0 [] []) [] []
def PV:List (List UInt8):=[[115,101,108,102]]
noncomputable def LM(vars:List (List UInt8))(e:aD):Bool:=wo e&&among (mZ e [] []) vars
noncomputable def nH(vars:List (List UInt8))(e:aD):Bool:=iQ vars&&LM vars e
noncomputable def uM(vars:List (List UInt8))(b:aS):Bool:=(validName b.bW&&qZ b.fType)&&(!qK b.fType&&among (jN [] b.fType) vars)
noncomputable def rT(vars:List (List UInt8))(bs:List aS):Bool:=dec (bs.length<=4)&&bs.all (uM vars)
noncomputable def jQ(g:aI):Bool:=
 validName g.fName&&(dec (g.bO.length<=4)&&(mK PV g.bO&&(iH PV g.dn&&
  (if g.iC=true then dec (g.aU.length=g.bO.length+1)&&nH g.aU g.fBody else dec (g.aU.length=0)&&dec (g.fBody=zeroE)))))
theorem II{xs:List ay}{t:ay}(h:t∈xs):t.sz<=aQ (xs.map ay.enc):=dO (List.mem_map_of_mem h)
theorem yx{xs:List aS}{t:aS}(h:t∈xs):t.sz<=aQ (xs.map aS.enc):=dO (List.mem_map_of_mem h)
theorem aI.sum(x:aI):x.fName.length+(x.bO.length+aQ (x.bO.map ay.enc))+x.dn.sz+(x.aU.length+aQ (x.aU.map encS))+x.fBody.sz<=x.sz:=by
 simp only[aI.sz,aI.aj,bG,bC,D.sz,List.length_map,ay.cK,aD.cK];omega
theorem aS.sum(x:aS):x.bW.length+x.fType.sz<=x.sz:=by
 simp only[aS.sz,aS.aj,bG,bC,D.sz,List.length_map,ay.cK];omega
theorem aev(e:aD)(h:e.sz<=4194304):(mZ e [] []).length<=1073741824:=by
 have h1:=zx e [] [];have h2:=aD.pR e;simp at h1;omega
theorem Jo(vars:List (List UInt8))(t:ay):iH vars t=(qZ t&&among (jN [] t) vars):=rfl
theorem ER(vars:List (List UInt8))(e:aD)(hv:vars.length<=1073741824)(hsz:e.sz<=4194304):aX prog 165 [e.v,.c (.d (.sl (vars.map encS)))] (.c (.d (.b (LM vars e)))):=fun S=>by
 have hlen:=aev e hsz;refine zcx [.tmp 4] func165 ntmps165 ?_;simp -implicitDefEqProofs (disch:=omega) only[go_sem];refine aB (LK e hsz) ?_;simp -implicitDefEqProofs (disch:=omega) only[go_sem]<;>(repeat(with_reducible refine And.intro ?_ ?_;focus first|omega|rfl|assumption|exact⟨_,rfl,rfl⟩|(simp;omega)|(simp;done)));unfold LM;generalize mZ e [] []=xs at hlen ⊢
 refine bN (ι:=Nat) zmx rfl [1,2,5,6] (fun i=>[.c (.d (.sl (vars.map encS))),.c (.ptr (0,0) 0),.c (.d (.sl (xs.map encS))),.c (.d (.i .i64 i))]) (fun _=>[.box (e.enc.map .d)]::S)
  (fun i=>i<=xs.length/\among (xs.drop i) vars=among xs vars) (fun i=>xs.length-i) 0 rfl ?_ ⟨Nat.zero_le _,rfl⟩ ?_
 ·simp -implicitDefEqProofs (disch:=omega) only[go_sem]
 rintro i ⟨p1,p2⟩;simp -implicitDefEqProofs (disch:=omega) only[go_sem,encS]
 with_reducible refine aC (fun hb=> ?_) (fun hb=> ?_)<;>have h:=hb<;>(try simp only[wf_preprocess] at h)<;>simp -implicitDefEqProofs (disch:=omega) only[go_sem,hb,encS]<;>(repeat(with_reducible refine And.intro ?_ ?_;focus first|omega|rfl|assumption|exact⟨_,rfl,rfl⟩|(simp;omega)|(simp;done)))
 ·have hi:i<xs.length:=by omega
  rw[List.drop_eq_getElem_cons hi] at p2;have p3:among xs vars=(dec (xs[i]∈vars)&&among (xs.drop (i+1)) vars):=p2.symm
  (repeat(with_reducible refine And.intro ?_ ?_;focus first|omega|rfl|assumption|exact⟨_,rfl,rfl⟩|(simp;omega)|(simp;done)))
  refine aB (oF vars xs[i] hv) ?_;simp -implicitDefEqProofs (disch:=omega) only[go_sem]<;>(repeat(with_reducible refine And.intro ?_ ?_;focus first|omega|rfl|assumption|exact⟨_,rfl,rfl⟩|(simp;omega)|(simp;done)))
  with_reducible refine aC (fun hb=> ?_) (fun hb=> ?_)<;>have h:=hb<;>(try simp only[wf_preprocess] at h)<;>simp -implicitDefEqProofs (disch:=omega) only[go_sem,hb]<;>(repeat(with_reducible refine And.intro ?_ ?_;focus first|omega|rfl|assumption|exact⟨_,rfl,rfl⟩|(simp;omega)|(simp;done)))
  ·exact bL (by rw[p3,bJ h];simp)
  ·exact bT (i+1) (by omega) rfl rfl ⟨by omega,by rw[p3,dD h];rfl⟩
 ·rw[List.drop_of_length_le (by omega)] at p2;have p3:among xs vars=true:=p2.symm
  (repeat(with_reducible refine And.intro ?_ ?_;focus first|omega|rfl|assumption|exact⟨_,rfl,rfl⟩|(simp;omega)|(simp;done)))
  refine aB (JZ e hsz) ?_;simp -implicitDefEqProofs (disch:=omega) only[go_sem]<;>(repeat(with_reducible refine And.intro ?_ ?_;focus first|omega|rfl|assumption|exact⟨_,rfl,rfl⟩|(simp;omega)|(simp;done)));exact bL (by rw[p3];simp)
theorem Jp(bs:List aS)(vars:List (List UInt8))(hl:bs.length<=1073741824)(hz:∀b∈bs,b.sz<=4194304)(hv:vars.length<=1073741824):aX prog 162 [.c (.d (.sl (bs.map aS.enc))),.c (.d (.sl (vars.map encS)))] (.c (.d (.b (rT vars bs)))):=fun S=>by
 refine zcx [.tmp 4] func162 ntmps162 ?_;simp -implicitDefEqProofs (disch:=omega) only[go_sem]
 refine bN (ι:=Nat) zmx rfl [0,1,5] (fun i=>[.c (.d (.sl (bs.map aS.enc))),.c (.d (.sl (vars.map encS))),.c (.d (.i .i64 i))]) (fun _=>[]::S)
  (fun i=>i<=bs.length/\(bs.drop i).all (uM vars)=bs.all (uM vars)) (fun i=>bs.length-i) 0 rfl rfl ⟨Nat.zero_le _,rfl⟩ ?_
 rintro i ⟨p1,p2⟩;simp -implicitDefEqProofs (disch:=omega) only[go_sem]
 with_reducible refine aC (fun hb=> ?_) (fun hb=> ?_)<;>have h:=hb<;>(try simp only[wf_preprocess] at h)<;>simp -implicitDefEqProofs (disch:=omega) only[go_sem,hb]<;>(repeat(with_reducible refine And.intro ?_ ?_;focus first|omega|rfl|assumption|exact⟨_,rfl,rfl⟩|(simp;omega)|(simp;done)))
 ·have hi:i<bs.length:=by omega
  have hb:=hz _ (List.getElem_mem hi);have hs:=aS.sum bs[i];rw[List.drop_eq_getElem_cons hi,List.all_cons] at p2;have no:uM vars bs[i]=false->V.c (.d (.b false))=V.c (.d (.b (rT vars bs))):=fun h=>bL (by unfold rT;rw[<-p2,h];simp)
  (repeat(with_reducible refine And.intro ?_ ?_;focus first|omega|rfl|assumption|exact⟨_,rfl,rfl⟩|(simp;omega)|(simp;done)))
  refine aB (IY bs[i] (by omega) (by omega)) ?_;simp -implicitDefEqProofs (disch:=omega) only[go_sem]<;>(repeat(with_reducible refine And.intro ?_ ?_;focus first|omega|rfl|assumption|exact⟨_,rfl,rfl⟩|(simp;omega)|(simp;done)))
  with_reducible refine aC (fun hb=> ?_) (fun hb=> ?_)<;>have h:=hb<;>(try simp only[wf_preprocess] at h)<;>simp -implicitDefEqProofs (disch:=omega) only[go_sem,hb]<;>(repeat(with_reducible refine And.intro ?_ ?_;focus first|omega|rfl|assumption|exact⟨_,rfl,rfl⟩|(simp;omega)|(simp;done)))
  ·exact no (by unfold uM;rw[h];rfl)
  have h1:=h
  (repeat(with_reducible refine And.intro ?_ ?_;focus first|omega|rfl|assumption|exact⟨_,rfl,rfl⟩|(simp;omega)|(simp;done)))
  refine aB (rQ bs[i].fType vars (by omega) hv) ?_;simp -implicitDefEqProofs (disch:=omega) only[go_sem]<;>(repeat(with_reducible refine And.intro ?_ ?_;focus first|omega|rfl|assumption|exact⟨_,rfl,rfl⟩|(simp;omega)|(simp;done)))
  with_reducible refine aC (fun hb=> ?_) (fun hb=> ?_)<;>have h:=hb<;>(try simp only[wf_preprocess] at h)<;>simp -implicitDefEqProofs (disch:=omega) only[go_sem,hb]<;>(repeat(with_reducible refine And.intro ?_ ?_;focus first|omega|rfl|assumption|exact⟨_,rfl,rfl⟩|(simp;omega)|(simp;done)))
  ·exact no (by unfold uM;rw[Jo] at h;rw[Bool.and_eq_true] at h1;rw[h1.2,Bool.true_and] at h;rw[h];simp)
  have h2:=h
  (repeat(with_reducible refine And.intro ?_ ?_;focus first|omega|rfl|assumption|exact⟨_,rfl,rfl⟩|(simp;omega)|(simp;done)))
  refine aB (DL bs[i].fType (by omega)) ?_;simp -implicitDefEqProofs (disch:=omega) only[go_sem]<;>(repeat(with_reducible refine And.intro ?_ ?_;focus first|omega|rfl|assumption|exact⟨_,rfl,rfl⟩|(simp;omega)|(simp;done)))
  with_reducible refine aC (fun hb=> ?_) (fun hb=> ?_)<;>have h:=hb<;>(try simp only[wf_preprocess] at h)<;>simp -implicitDefEqProofs (disch:=omega) only[go_sem,hb]<;>(repeat(with_reducible refine And.intro ?_ ?_;focus first|omega|rfl|assumption|exact⟨_,rfl,rfl⟩|(simp;omega)|(simp;done)))
  ·exact no (by unfold uM;rw[h];simp)
  have h3:=h;rw[Jo,Bool.and_eq_true] at h2;exact bT (i+1) (by omega) rfl rfl ⟨by omega,by rw[<-p2];unfold uM;rw[h1,h2.2,h3];rfl⟩
 ·rw[List.drop_of_length_le (by omega)] at p2;exact bL (by unfold rT;rw[<-p2,nM];simp only[List.all_nil,Bool.and_true];exact gG ⟨fun h=>by omega,fun h=>by omega⟩)
theorem Yl(e:aD)(hsz:e.sz<=4194304):aX prog 184 [e.v] (.c (.d (.b (dec (e=zeroE))))):=fun S=>by
 refine zcx [.tmp 2] func184 ntmps184 ?_;simp -implicitDefEqProofs (disch:=omega) only[go_sem];refine aB (J5 e zeroE hsz) ?_;simp -implicitDefEqProofs (disch:=omega) only[go_sem]
theorem aa7(g:aI)(hsz:g.sz<=4194304):aX prog 158 [g.v] (.c (.d (.b (jQ g)))):=fun S=>by
 have hs:=aI.sum g
 have hT:∀t∈g.bO,t.sz<=4194304:=fun t ht=>by have:=II ht;omega
 have hV:∀s∈g.aU,s.length<=4194304:=fun s h=>by have:=zo h;omega
 refine zcx [.tmp 2] func158 ntmps158 ?_;simp -implicitDefEqProofs (disch:=omega) only[go_sem];refine aB (gL g.fName (by omega)) ?_;simp -implicitDefEqProofs (disch:=omega) only[go_sem]<;>(repeat(with_reducible refine And.intro ?_ ?_;focus first|omega|rfl|assumption|exact⟨_,rfl,rfl⟩|(simp;omega)|(simp;done)))
 with_reducible refine aC (fun hb=> ?_) (fun hb=> ?_)<;>have h:=hb<;>(try simp only[wf_preprocess] at h)<;>simp -implicitDefEqProofs (disch:=omega) only[go_sem,hb]<;>(repeat(with_reducible refine And.intro ?_ ?_;focus first|omega|rfl|assumption|exact⟨_,rfl,rfl⟩|(simp;omega)|(simp;done)))
 ·exact bL (by unfold jQ;rw[h];rfl)
 have h1:=h
 with_reducible refine aC (fun hb=> ?_) (fun hb=> ?_)<;>have h:=hb<;>(try simp only[wf_preprocess] at h)<;>simp -implicitDefEqProofs (disch:=omega) only[go_sem,hb]<;>(repeat(with_reducible refine And.intro ?_ ?_;focus first|omega|rfl|assumption|exact⟨_,rfl,rfl⟩|(simp;omega)|(simp;done)))
 ·exact bL (by unfold jQ;rw[bJ (show ¬g.bO.length<=4 by omega)];simp)
 have h2:=h
 (repeat(with_reducible refine And.intro ?_ ?_;focus first|omega|rfl|assumption|exact⟨_,rfl,rfl⟩|(simp;omega)|(simp;done)))
 refine aB (Ol g.bO PV (by omega) hT (by decide)) ?_;simp -implicitDefEqProofs (disch:=omega) only[go_sem]
 with_reducible refine aC (fun hb=> ?_) (fun hb=> ?_)<;>have h:=hb<;>(try simp only[wf_preprocess] at h)<;>simp -implicitDefEqProofs (disch:=omega) only[go_sem,hb]<;>(repeat(with_reducible refine And.intro ?_ ?_;focus first|omega|rfl|assumption|exact⟨_,rfl,rfl⟩|(simp;omega)|(simp;done)))
 ·exact bL (by unfold jQ;rw[h];simp)
 have h3:=h
 (repeat(with_reducible refine And.intro ?_ ?_;focus first|omega|rfl|assumption|exact⟨_,rfl,rfl⟩|(simp;omega)|(simp;done)))
 refine aB (rQ g.dn PV (by omega) (by decide)) ?_;simp -implicitDefEqProofs (disch:=omega) only[go_sem]
 with_reducible refine aC (fun hb=> ?_) (fun hb=> ?_)<;>have h:=hb<;>(try simp only[wf_preprocess] at h)<;>simp -implicitDefEqProofs (disch:=omega) only[go_sem,hb]<;>(repeat(with_reducible refine And.intro ?_ ?_;focus first|omega|rfl|assumption|exact⟨_,rfl,rfl⟩|(simp;omega)|(simp;done)))
 ·exact bL (by unfold jQ;rw[h];simp)
 have h4:=h
 with_reducible refine aC (fun hb=> ?_) (fun hb=> ?_)<;>have h:=hb<;>(try simp only[wf_preprocess] at h)<;>simp -implicitDefEqProofs (disch:=omega) only[go_sem,hb]<;>(repeat(with_reducible refine And.intro ?_ ?_;focus first|omega|rfl|assumption|exact⟨_,rfl,rfl⟩|(simp;omega)|(simp;done)))
 ·have h5:¬g.iC=true:=by rw[h];simp
  with_reducible refine aC (fun hb=> ?_) (fun hb=> ?_)<;>have h:=hb<;>(try simp only[wf_preprocess] at h)<;>simp -implicitDefEqProofs (disch:=omega) only[go_sem,hb]<;>(repeat(with_reducible refine And.intro ?_ ?_;focus first|omega|rfl|assumption|exact⟨_,rfl,rfl⟩|(simp;omega)|(simp;done)))
  ·refine aB (Yl g.fBody (by omega)) ?_;simp -implicitDefEqProofs (disch:=omega) only[go_sem]<;>(repeat(with_reducible refine And.intro ?_ ?_;focus first|omega|rfl|assumption|exact⟨_,rfl,rfl⟩|(simp;omega)|(simp;done)));exact bL (by unfold jQ;rw[h1,h3,h4,if_neg h5,dD (show g.bO.length<=4 by omega),dD (show g.aU.length=0 by omega)];rfl)
  ·exact bL (by unfold jQ;rw[if_neg h5,bJ (show ¬g.aU.length=0 by omega)];simp)
 ·have h5:=h;refine aB (kg g.aU 5 (by omega) hV) ?_;simp -implicitDefEqProofs (disch:=omega) only[go_sem]<;>(repeat(with_reducible refine And.intro ?_ ?_;focus first|omega|rfl|assumption|exact⟨_,rfl,rfl⟩|(simp;omega)|(simp;done)))
  with_reducible refine aC (fun hb=> ?_) (fun hb=> ?_)<;>have h:=hb<;>(try simp only[wf_preprocess] at h)<;>simp -implicitDefEqProofs (disch:=omega) only[go_sem,hb]<;>(repeat(with_reducible refine And.intro ?_ ?_;focus first|omega|rfl|assumption|exact⟨_,rfl,rfl⟩|(simp;omega)|(simp;done)))
  ·have h6:=h;rw[Bool.and_eq_true] at h6
   with_reducible refine aC (fun hb=> ?_) (fun hb=> ?_)<;>have h:=hb<;>(try simp only[wf_preprocess] at h)<;>simp -implicitDefEqProofs (disch:=omega) only[go_sem,hb]<;>(repeat(with_reducible refine And.intro ?_ ?_;focus first|omega|rfl|assumption|exact⟨_,rfl,rfl⟩|(simp;omega)|(simp;done)))
   ·refine aB (ER g.aU g.fBody (by omega) (by omega)) ?_;simp -implicitDefEqProofs (disch:=omega) only[go_sem]<;>(repeat(with_reducible refine And.intro ?_ ?_;focus first|omega|rfl|assumption|exact⟨_,rfl,rfl⟩|(simp;omega)|(simp;done)));exact bL (by unfold jQ nH;rw[h1,h3,h4,if_pos h5,h6.2,dD (show g.bO.length<=4 by omega),dD (show g.aU.length=g.bO.length+1 by omega)];rfl)
   ·exact bL (by unfold jQ;rw[if_pos h5,bJ (show ¬g.aU.length=g.bO.length+1 by omega)];simp)
  ·refine bL ?_;by_cases h7:g.aU.length=g.bO.length+1
   ·rw[dD (by omega),Bool.true_and] at h
    unfold jQ nH;rw[if_pos h5,h];simp
   ·unfold jQ;rw[if_pos h5,bJ h7];simp
def sD(f:bF):List (List UInt8):=f.bO.map dA.fName
def R3(f:bF):List ay:=f.bO.map dA.fType
noncomputable def l9(f:bF):Bool:=
 validName f.fName&&(dec (f.aU.length<=3)&&(iQ f.aU&&(rT f.aU f.dV&&(dec (f.bO.length<=5)&&(mK f.aU (R3 f)&&(iH f.aU f.dn&&nH (sD f) f.fBody))))))
theorem bF.sum(x:bF):x.fName.length+(x.aU.length+aQ (x.aU.map encS))+(x.dV.length+aQ (x.dV.map aS.enc))+(x.bO.length+aQ (x.bO.map dA.enc))+x.dn.sz+x.fBody.sz<=x.sz:=by
 simp only[bF.sz,bF.aj,bG,bC,D.sz,List.length_map,ay.cK,aD.cK];omega
theorem dA.sum(x:dA):x.fName.length+x.fType.sz<=x.sz:=by
 simp only[dA.sz,dA.aj,bG,bC,D.sz,List.length_map,ay.cK];omega
theorem Vy{xs:List dA}{t:dA}(h:t∈xs):t.sz<=aQ (xs.map dA.enc):=dO (List.mem_map_of_mem h)
theorem yA(f:bF)(hsz:f.sz<=4194304):aX prog 126 [f.v] (.c (.d (.b (l9 f)))):=fun S=>by
 have hs:=bF.sum f
 have hV:∀s∈f.aU,s.length<=4194304:=fun s h=>by have:=zo h;omega
 have hW:∀b∈f.dV,b.sz<=4194304:=fun b h=>by have:=yx h;omega
 have hP:∀p∈f.bO,p.sz<=4194304:=fun m h=>by have:=Vy h;omega
 have hpn:∀s∈sD f,s.length<=4194304:=fun t h=>by
  obtain⟨p,hp,e⟩:=List.mem_map.1 h;have:=hP p hp;have:=dA.sum p;rw[<-e];omega
 have hnl:(sD f).length=f.bO.length:=by simp[sD]
 have bad:∀i,∀hi:i<f.bO.length,iH f.aU f.bO[i].fType=false->V.c (.d (.b false))=V.c (.d (.b (l9 f))):=fun i hi h=>bL (by
  have:mK f.aU (R3 f)=false:=Bool.eq_false_iff.2 fun hx=>by
   have:=List.all_eq_true.1 hx f.bO[i].fType (List.mem_map_of_mem (List.getElem_mem hi));rw[h] at this;cases this
  unfold l9
  rw[this];simp)
 refine zcx [.tmp 2] func126 ntmps126 ?_;simp -implicitDefEqProofs (disch:=omega) only[go_sem]
 (repeat(with_reducible refine And.intro ?_ ?_;focus first|omega|rfl|assumption|exact⟨_,rfl,rfl⟩|(simp;omega)|(simp;done)))
 refine kN 3 1 [] rfl (by simp) ?_
 refine bN (ι:=Nat×List (List UInt8)) zmx rfl [1,3,4] (fun y=>[.c (.ptr (0,0) 0),.c (.bV (0,1) (y.2.map encS)),.c (.d (.i .i64 y.1))]) (fun y=>[.box (f.enc.map .d),.tok 1 (y.2.map encS)]::S)
  (fun y=>y.1<=f.bO.length/\y.2=(sD f).take y.1/\∀j,∀hj:j<f.bO.length,j<y.1->iH f.aU f.bO[j].fType=true) (fun y=>f.bO.length-y.1) (0,[]) rfl ?_ ⟨Nat.zero_le _,rfl,fun j _ h=>by simp only at h;omega⟩ ?_
 ·simp -implicitDefEqProofs (disch:=omega) only[go_sem]
 rintro⟨i,names⟩ ⟨p1,p2,p3⟩;simp only at p1 p2 p3
 have pl:names.length<=f.bO.length:=by rw[p2];simp[sD];omega
 simp -implicitDefEqProofs (disch:=omega) only[go_sem]
 with_reducible refine aC (fun hb=> ?_) (fun hb=> ?_)<;>have h:=hb<;>(try simp only[wf_preprocess] at h)<;>simp -implicitDefEqProofs (disch:=omega) only[go_sem,hb]<;>(repeat(with_reducible refine And.intro ?_ ?_;focus first|omega|rfl|assumption|exact⟨_,rfl,rfl⟩|(simp;omega)|(simp;done)))
 ·have hi:i<f.bO.length:=by omega
  have hp:=hP _ (List.getElem_mem hi);have hps:=dA.sum f.bO[i]
  (repeat(with_reducible refine And.intro ?_ ?_;focus first|omega|rfl|assumption|exact⟨_,rfl,rfl⟩|(simp;omega)|(simp;done)))
  refine aB (rQ f.bO[i].fType f.aU (by omega) (by omega)) ?_;simp -implicitDefEqProofs (disch:=omega) only[go_sem]<;>(repeat(with_reducible refine And.intro ?_ ?_;focus first|omega|rfl|assumption|exact⟨_,rfl,rfl⟩|(simp;omega)|(simp;done)))
  with_reducible refine aC (fun hb=> ?_) (fun hb=> ?_)<;>have h:=hb<;>(try simp only[wf_preprocess] at h)<;>simp -implicitDefEqProofs (disch:=omega) only[go_sem,hb]<;>(repeat(with_reducible refine And.intro ?_ ?_;focus first|omega|rfl|assumption|exact⟨_,rfl,rfl⟩|(simp;omega)|(simp;done)))
  ·exact bad i hi h
  have k3:=h
  (repeat(with_reducible refine And.intro ?_ ?_;focus first|omega|rfl|assumption|exact⟨_,rfl,rfl⟩|(simp;omega)|(simp;done)))
  rw[show List.map encS names++[[D.s f.bO[i].fName]]=List.map encS (names++[f.bO[i].fName]) by simp[encS]]
  exact bT (i+1,names++[f.bO[i].fName]) (by simp only;omega) rfl rfl ⟨by simp only;omega,by simp only;rw[p2,nZ (by simpa [sD] using hi)];simp[sD],fun j hj hji=>by
   simp only at hji;by_cases e:j=i
   ·subst e;exact k3
   ·exact p3 j hj (by omega)⟩
 have hi:i=f.bO.length:=by omega
 have hn:names=sD f:=by rw[p2,List.take_of_length_le (by simp[sD];omega)]
 have hall:mK f.aU (R3 f)=true:=List.all_eq_true.2 fun c hc=>by
  obtain⟨p,hp,e⟩:=List.mem_map.1 hc;obtain⟨j,hj,e'⟩:=List.getElem_of_mem hp;rw[<-e,<-e'];exact p3 j hj (by omega)
 clear p2 p3 bad;subst hn
 repeat' (first
  |with_reducible refine aC (fun hb=> ?_) (fun hb=> ?_)<;>have h:=hb<;>(try simp only[wf_preprocess] at h)<;>simp -implicitDefEqProofs (disch:=omega) only[go_sem,hb]<;>(repeat(with_reducible refine And.intro ?_ ?_;focus first|omega|rfl|assumption|exact⟨_,rfl,rfl⟩|(simp;omega)|(simp;done)))
  |((with_reducible show iI _ _ 77 _ _ _ _);refine aB (gL f.fName (by omega)) ?_;simp -implicitDefEqProofs (disch:=omega) only[go_sem])
  |((with_reducible show iI _ _ 78 _ _ _ _);refine aB (kg f.aU 3 (by omega) hV) ?_;simp -implicitDefEqProofs (disch:=omega) only[go_sem])
  |((with_reducible show iI _ _ 162 _ _ _ _);refine aB (Jp f.dV f.aU (by omega) hW (by omega)) ?_;simp -implicitDefEqProofs (disch:=omega) only[go_sem])
  |((with_reducible show iI _ _ 78 _ _ _ _);refine aB (kg (sD f) 5 (by omega) hpn) ?_;simp -implicitDefEqProofs (disch:=omega) only[go_sem])
  |((with_reducible show iI _ _ 160 _ _ _ _);refine aB (rQ f.dn f.aU (by omega) (by omega)) ?_;simp -implicitDefEqProofs (disch:=omega) only[go_sem])
  |((with_reducible show iI _ _ 165 _ _ _ _);refine aB (ER (sD f) f.fBody (by omega) (by omega)) ?_;simp -implicitDefEqProofs (disch:=omega) only[go_sem])
  |(refine bL ?_;unfold l9 nH;grind [gD,j6,dD,bJ]))
def R4(n:Nat)(s:St):St:=match s.st with
 |(.seed _::own)::Ω=>⟨s.tm,(.seed n::own)::Ω⟩
 |_=>s
theorem Ux{n m:Nat}{tm:List (Nat×V)}{own:List Obj}{Ω:Store}:R4 n ⟨tm,(.seed m::own)::Ω⟩=⟨tm,(.seed n::own)::Ω⟩:=rfl
def ak5(j p n:Nat)(s:St):St:=R4 n (XT j p s)
attribute [go_sem] ak5 Ux
def GX:List UInt8:=[102,110]
def xA(b:aS):au:=eB [bQ b.bW,dU b.fType]
def vE(b:dA):au:=eB [bQ b.fName,dU b.fType]
def OB(f:bF):au:=eB [bQ GX,bQ f.fName,eB (cZ f.aU),eB (f.dV.map xA),eB (f.bO.map vE),dU f.dn,fM f.fBody]
noncomputable def R5(f:bF):au:=um (l9 f) (OB f)
theorem ahc{f:bF}(h:f.sz<=1048576):(R5 f).sz<=1048576:=Nat.le_trans (IE _ _) (by decide)
theorem aja(b:aS):(xA b).sz<=14+16*b.sz:=by
 have:=zq b.fType;have:=aS.sum b;rw[xA,jd];simp[dH,jc];omega
theorem aew(b:dA):(vE b).sz<=14+16*b.sz:=by
 have:=zq b.fType;have:=dA.sum b;rw[vE,jd];simp[dH,jc];omega
theorem Nj:∀l:List aS,dH (l.map xA)<=14*l.length+16*aQ (l.map aS.enc)
 |[]=>by simp[dH]
 |c::l=>by
  have h1:=aja c;have h2:=Nj l;rw[List.map_cons,dH,List.map_cons,aQ,List.length_cons];simp only[aS.sz] at h1;omega
theorem OC:∀l:List dA,dH (l.map vE)<=14*l.length+16*aQ (l.map dA.enc)
 |[]=>by simp[dH]
 |c::l=>by
  have h1:=aew c;have h2:=OC l;rw[List.map_cons,dH,List.map_cons,aQ,List.length_cons];simp only[dA.sz] at h1;omega
theorem ajb{f:bF}(hok:iY f.fBody=true):(OB f).sz<=60+32*f.sz:=by
 have h1:=Nj f.dV;have h2:=OC f.bO;have h3:=zq f.dn;have h4:=GR f.fBody hok;have h5:=bF.sum f;rw[eu] at h5;rw[OB,jd];simp[dH,jc,jd,kR,pW,GX];omega
theorem zX{vars:List (List UInt8)}{bs:List aS}(h:rT vars bs=true):∀b∈bs,formed b.fType=true:=fun b hb=>by
 unfold rT at h;rw[Bool.and_eq_true] at h;have h2:=List.all_eq_true.1 h.2 b hb;unfold uM at h2;simp only[Bool.and_eq_true] at h2;exact wY h2.1.2
theorem tF{vars:List (List UInt8)}{t:ay}(h:iH vars t=true):formed t=true:=by
 unfold iH at h;rw[Bool.and_eq_true] at h;exact wY h.1
theorem Cq{vars:List (List UInt8)}{e:aD}(h:nH vars e=true):iY e=true:=by
 unfold nH LM at h;simp only[Bool.and_eq_true] at h;exact RX h.2.1
theorem FL{f:bF}(h:l9 f=true):(∀b∈f.dV,formed b.fType=true)/\(∀q∈f.bO,formed q.fType=true)/\formed f.dn=true/\iY f.fBody=true:=by
 unfold l9 at h;simp only[Bool.and_eq_true] at h;obtain⟨_,_,_,h1,_,h2,h3,h4⟩:=h;exact⟨zX h1,fun q hq=>Da.1 (vM h2) _ (List.mem_map_of_mem hq),tF h3,Cq h4⟩
theorem uD(xs:List aS)(hlen:xs.length<=4194304)(hsz:∀b∈xs,b.sz<=4194304):aX prog 272 [.c (.d (.sl (xs.map aS.enc)))] (.agg [.d (.s []),.d (.sl ((xs.map xA).map au.enc))]):=fun S=>by
 obtain⟨T,hT⟩:∃T:Nat->List (List D),T=fun i=>((xs.map xA).take i).map au.enc:=⟨_,rfl⟩
 have hT0:T 0=[]:=by rw[hT];rfl
 have jY:∀i,(T i).length<=i:=fun i=>by
  rw[hT];simp only[List.length_map];exact List.length_take_le _ _
 have hTs:∀i (hi:i<xs.length),T i++[[.s [],.sl [[.s xs[i].bW,.sl []],[.s (dU xs[i].fType).bH,.sl ((dU xs[i].fType).aA.map au.enc)]]]]=T (i+1):=fun i hi=>by
  have:=iN (base:=[]) (l:=xs.map xA) (i:=i) (by rw[List.length_map];exact hi);rw[List.getElem_map,xA,lD,iw,List.map_cons,List.map_cons,List.map_nil,eU,au.aj (dU xs[i].fType)] at this;rw[hT];exact this
 have hTe:T xs.length=(xs.map xA).map au.enc:=by
  rw[hT];simp only
  rw[List.take_of_length_le (by simp)]
 clear hT;refine zcx [.cell 2 202] func272 ntmps272 ?_;simp -implicitDefEqProofs (disch:=omega) only[go_sem];refine Ce 1 1 2 [] [.d (.s []),.bM []] rfl rfl (by simp) ?_
 refine bN (ι:=Nat) zmx rfl [0,2,3,4] (fun i=>[.c (.d (.sl (xs.map aS.enc))),.c (.ptr (0,0) 0),.c (.ptr (0,1) 0),.c (.d (.i .i64 i))])
  (fun i=>[.box [.d (.s []),.bM []],.box [.d (.s []),.bV (0,2) (T i)],.tok 2 (T i)]::S)
  (fun i=>i<=xs.length) (fun i=>xs.length-i) 0 rfl (by rw[hT0];rfl) (Nat.zero_le _) ?_
 intro i hi;have hl:=jY i;simp -implicitDefEqProofs (disch:=omega) only[go_sem]
 with_reducible refine aC (fun hb=> ?_) (fun hb=> ?_)<;>have h:=hb<;>(try simp only[wf_preprocess] at h)<;>simp -implicitDefEqProofs (disch:=omega) only[go_sem,hb]<;>(repeat(with_reducible refine And.intro ?_ ?_;focus first|omega|rfl|assumption|exact⟨_,rfl,rfl⟩|(simp;omega)|(simp;done)))
 ·have hi':i<xs.length:=by omega
  have hm:=List.getElem_mem hi';have hcz:=hsz _ hm;have hce:=aS.sum xs[i];have hs:=hTs i hi'
  (repeat(with_reducible refine And.intro ?_ ?_;focus first|omega|rfl|assumption|exact⟨_,rfl,rfl⟩|(simp;omega)|(simp;done)))
  refine aB (bS _) ?_;simp -implicitDefEqProofs (disch:=omega) only[go_sem]
  (repeat(with_reducible refine And.intro ?_ ?_;focus first|omega|rfl|assumption|exact⟨_,rfl,rfl⟩|(simp;omega)|(simp;done)))
  refine aB (jX xs[i].fType (by omega)) ?_;simp -implicitDefEqProofs (disch:=omega) only[go_sem]
  (repeat(with_reducible refine And.intro ?_ ?_;focus first|omega|rfl|assumption|exact⟨_,rfl,rfl⟩|(simp;omega)|(simp;done)))
  refine aB (lg _ (by simp) (by simp)) ?_;simp -implicitDefEqProofs (disch:=omega) only[go_sem]
  (repeat(with_reducible refine And.intro ?_ ?_;focus first|omega|rfl|assumption|exact⟨_,rfl,rfl⟩|(simp;omega)|(simp;done)))
  rw[hs];exact bT (i+1) (by omega) rfl rfl (by omega)
 ·have hi':i=xs.length:=by omega
  subst hi';rw[hTe]
theorem aa8(f:bF)(hsz:f.sz<=1048576):aX prog 258 [f.v] (R5 f).v:=by
 unfold R5
 cases hv:l9 f with
 |false=>
  rw[um];refine aX.less (fun S=> ?_) (DU [] []);refine zcx [.cell 2 202] func258 ntmps258 ?_;simp -implicitDefEqProofs (disch:=omega) only[go_sem];refine aB (yA f (by omega)) ?_;simp -implicitDefEqProofs (disch:=omega) only[go_sem,hv]
 |true=>
  intro S;have hdz:=bF.sum f;rw[eu] at hdz;obtain⟨hf1,hf2,hf3,Jq⟩:=FL hv;have hz:=ajb Jq;obtain⟨T,hT⟩:∃T:Nat->List (List D),T=fun i=>((f.bO.map vE).take i).map au.enc:=⟨_,rfl⟩
  have hT0:T 0=[]:=by rw[hT];rfl
  have jY:∀i,(T i).length<=i:=fun i=>by
   rw[hT];simp only[List.length_map];exact List.length_take_le _ _
  have hTs:∀i (hi:i<f.bO.length),T i++[[.s [],.sl [[.s f.bO[i].fName,.sl []],[.s (dU f.bO[i].fType).bH,.sl ((dU f.bO[i].fType).aA.map au.enc)]]]]=T (i+1):=fun i hi=>by
   have:=iN (base:=[]) (l:=f.bO.map vE) (i:=i) (by rw[List.length_map];exact hi);rw[List.getElem_map,vE,lD,iw,List.map_cons,List.map_cons,List.map_nil,eU,au.aj (dU f.bO[i].fType)] at this;rw[hT];exact this
  have hTe:T f.bO.length=(f.bO.map vE).map au.enc:=by
   rw[hT];simp only
   rw[List.take_of_length_le (by simp)]
  clear hT;refine zcx [.cell 2 202] func258 ntmps258 ?_;simp -implicitDefEqProofs (disch:=omega) only[go_sem];refine aB (yA f (by omega)) ?_;simp -implicitDefEqProofs (disch:=omega) only[go_sem,hv];refine Ce 2 1 2 [] [.d (.s []),.bM []] rfl rfl (by simp) ?_
  refine bN (ι:=Nat) zmx rfl [1,2,3,4] (fun i=>[.c (.ptr (0,0) 0),.c (.ptr (0,1) 0),.c (.ptr (0,2) 0),.c (.d (.i .i64 i))])
   (fun i=>[.box [.d (.s f.fName),.d (.sl (f.aU.map encS)),.d (.sl (f.dV.map aS.enc)),.d (.sl (f.bO.map dA.enc)),.d (.i .i64 f.dn.aV),.d (.s f.dn.fName),.d (.sl (f.dn.fArgs.map ay.enc)),.d (.i .i64 f.fBody.aV),.d (.s f.fBody.bW),.d (.s f.fBody.fName),.d (.i .i64 f.fBody.fN),.d (.i .i64 f.fBody.fType.aV),.d (.s f.fBody.fType.fName),.d (.sl (f.fBody.fType.fArgs.map ay.enc)),.d (.sl (f.fBody.fArgs.map aD.enc)),.d (.sl (f.fBody.bP.map bE.enc))],.box [.d (.s []),.bM []],.box [.d (.s []),.bV (0,3) (T i)],.tok 2 (T i)]::S)
   (fun i=>i<=f.bO.length) (fun i=>f.bO.length-i) 0 rfl (by rw[hT0];rfl) (Nat.zero_le _) ?_
  intro i hi;have hl:=jY i;simp -implicitDefEqProofs (disch:=omega) only[go_sem]
  with_reducible refine aC (fun hb=> ?_) (fun hb=> ?_)<;>have h:=hb<;>(try simp only[wf_preprocess] at h)<;>simp -implicitDefEqProofs (disch:=omega) only[go_sem,hb]<;>(repeat(with_reducible refine And.intro ?_ ?_;focus first|omega|rfl|assumption|exact⟨_,rfl,rfl⟩|(simp;omega)|(simp;done)))
  ·have hi':i<f.bO.length:=by omega
   have hm:=List.getElem_mem hi';have hcz:=Vy hm;have hce:=dA.sum f.bO[i];have hs:=hTs i hi'
   (repeat(with_reducible refine And.intro ?_ ?_;focus first|omega|rfl|assumption|exact⟨_,rfl,rfl⟩|(simp;omega)|(simp;done)))
   refine aB (bS _) ?_;simp -implicitDefEqProofs (disch:=omega) only[go_sem]
   (repeat(with_reducible refine And.intro ?_ ?_;focus first|omega|rfl|assumption|exact⟨_,rfl,rfl⟩|(simp;omega)|(simp;done)))
   refine aB (jX f.bO[i].fType (by omega)) ?_;simp -implicitDefEqProofs (disch:=omega) only[go_sem]
   (repeat(with_reducible refine And.intro ?_ ?_;focus first|omega|rfl|assumption|exact⟨_,rfl,rfl⟩|(simp;omega)|(simp;done)))
   refine aB (lg _ (by simp) (by simp)) ?_;simp -implicitDefEqProofs (disch:=omega) only[go_sem]
   (repeat(with_reducible refine And.intro ?_ ?_;focus first|omega|rfl|assumption|exact⟨_,rfl,rfl⟩|(simp;omega)|(simp;done)))
   rw[hs];exact bT (i+1) (by omega) rfl rfl (by omega)
  ·have hi':i=f.bO.length:=by omega
   subst hi';rw[hTe];refine aB (bS _) ?_;simp -implicitDefEqProofs (disch:=omega) only[go_sem];refine aB (bS _) ?_;simp -implicitDefEqProofs (disch:=omega) only[go_sem];refine aB (dZ f.aU (by omega)) ?_;simp -implicitDefEqProofs (disch:=omega) only[go_sem];refine aB (uD f.dV (by omega) (fun b hb=>by have:=yx hb;omega)) ?_;simp -implicitDefEqProofs (disch:=omega) only[go_sem];refine aB (jX f.dn (by omega)) ?_;simp -implicitDefEqProofs (disch:=omega) only[go_sem];refine aB (rA f.fBody Jq (by omega)) ?_;simp -implicitDefEqProofs (disch:=omega) only[go_sem]
   (repeat(with_reducible refine And.intro ?_ ?_;focus first|omega|rfl|assumption|exact⟨_,rfl,rfl⟩|(simp;omega)|(simp;done)))
   refine aB (lg _ (by simp) (by simp)) ?_;simp -implicitDefEqProofs (disch:=omega) only[go_sem]
   (repeat(with_reducible refine And.intro ?_ ?_;focus first|omega|rfl|assumption|exact⟨_,rfl,rfl⟩|(simp;omega)|(simp;done)))
   have hI:=pY true (OB f) (by omega)
   have hx:(OB f).v=V.agg [.d (.s []),.d (.sl [[.s [102,110],.sl []],[.s f.fName,.sl []],[.s [],.sl ((cZ f.aU).map au.enc)],[.s [],.sl ((f.dV.map xA).map au.enc)],[.s [],.sl ((f.bO.map vE).map au.enc)],[.s (dU f.dn).bH,.sl ((dU f.dn).aA.map au.enc)],[.s (fM f.fBody).bH,.sl ((fM f.fBody).aA.map au.enc)]])]:=by
    rw[OB];show V.agg [.d (.s []),.d (.sl (List.map au.enc _))]=_;simp only[iw,List.map_cons,List.map_nil,eU,jg,au.aj (dU f.dn),au.aj (fM f.fBody),GX]
   rw[hx] at hI;refine aB hI ?_;simp -implicitDefEqProofs (disch:=omega) only[go_sem]
end Go.Ab