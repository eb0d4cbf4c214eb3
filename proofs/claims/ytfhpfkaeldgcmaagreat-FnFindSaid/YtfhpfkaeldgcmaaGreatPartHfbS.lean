/-
  SEVERAL TEXTS IN ONE (merged by program): contracts and models, each with its own heading.
-/
import Derived.Test.YtfhpfkaeldgcmaaGreatPartHfbO
import Derived.Test.YtfhpfkaeldgcmaaGreatPartHfbQ
import Derived.Test.YtfhpfkaeldgcmaaGreatPartHfbR
import Derived.Lib.AppendZeros
import Derived.Laws.Cover3
set_option maxHeartbeats 8000000
open Go.Proofs Go.Proofs.Tryz
set_option linter.unusedSimpArgs false
set_option linter.unusedVariables false
set_option maxRecDepth 4000
namespace Go.Ab
theorem JI{xs:List (List UInt8)}:∀y∈xs.map encS,y.length=1:=fun y hy=>by
 obtain⟨z,_,rfl⟩:=List.mem_map.1 hy;rfl
theorem cB.args{P:Program}{f:FuncId}{args args':List V}{S:Store}{post:V->Store->Prop}(h:cB P f args' S post)(hl:uz args args'):cB P f args S post:=h.weaken hl.length fun j x y hx hy w σ β v hr=>hl.at j x y hx hy w σ S β v hr
theorem rR{x:aC}{k:Int}(h:x.aV=k):kC x.aV x.bU x.fName x.fType=kC k x.bU x.fName x.fType:=by rw[h]
theorem aaM{l:List aC}{t:aC}(h:t∈l):t.sz<=sG l:=by
 rw[<-JE];exact dx (List.mem_map_of_mem h)
theorem X3{l:List bn}{t:bn}(h:t∈l):t.sz<=zK l:=by
 rw[<-JF];exact dx (List.mem_map_of_mem h)
theorem IY:∀{xs:List aC},lS xs=true<->∀t∈xs,jd t=true
 |[]=>by simp[lS]
 |t::ts=>by simp[lS,IY (xs:=ts)]
theorem Ll:∀{xs:List bn},ow xs=true<->∀t∈xs,yM t=true
 |[]=>by simp[ow]
 |t::ts=>by simp[ow,Ll (xs:=ts)]
theorem uF{x:aC}(h1:x.aV≠1)(h2:x.aV≠2)(h3:x.aV≠3)(h:x.aV=4\/x.aV=5\/x.aV=6\/x.aV=8\/x.aV=9\/x.aV=10\/x.aV=11\/x.aV=12):
 fQ x=eD (kC x.aV x.bU x.fName x.fType++x.fArgs.map fQ):=by rw[RI,if_neg h1,if_neg h2,if_neg h3,if_pos h,List.append_nil]
theorem nU(hd:List au)(xs:List aC)(S:Store)(hA:∀t∈xs,bg prog 270 [t.v] (fQ t).v)(hl:xs.length<=4194304)(hh:hd.length<=4):cB prog 277 [.c (.bI (hd.map au.enc)),.c (.d (.sl (xs.map aC.enc)))] S
 (fun r S'=>r=.agg [.d (.s []),.d (.sl ((hd++xs.map fQ).map au.enc))]/\S'=S):=by
 obtain⟨T,hT⟩:∃T:Nat->List (List D),T=fun i=>(hd++(xs.map fQ).take i).map au.enc:=⟨_,rfl⟩
 have hT0:T 0=hd.map au.enc:=by rw[hT];simp only[List.take_zero,List.append_nil]
 have iG:∀i,(T i).length<=i+hd.length:=fun i=>by
  rw[hT];simp only[List.length_map,List.length_append];have:=List.length_take_le i (xs.map fQ);omega
 have hTs:∀i (hi:i<xs.length),T i++[[.s (fQ xs[i]).bK,.sl ((fQ xs[i]).aA.map au.enc)]]=T (i+1):=fun i hi=>by
  have:=iP (base:=hd) (l:=xs.map fQ) (i:=i) (by rw[List.length_map];exact hi);rw[List.getElem_map] at this;rw[hT];exact this
 have hTe:T xs.length=(hd++xs.map fQ).map au.enc:=by rw[hT];simp only;rw[List.take_of_length_le (by simp)]
 clear hT;rw[<-hT0];rw[<-hTe];refine zcx [.cell 4 202] func277 ntmps277 ?_;simp -implicitDefEqProofs (disch:=omega) only[go_sem];refine qX 1 1 2 (T 0) [.d (.s []),.bI (T 0)] rfl rfl (by rw[hT0];exact jk) ?_
 refine bO (ι:=Nat) zmx rfl [1,4,5,6] (fun i=>[.c (.d (.sl (xs.map aC.enc))),.c (.ptr (0,0) 0),.c (.ptr (0,1) 0),.c (.d (.i .i64 i))])
  (fun i=>[.box [.d (.s []),.bI []],.box [.d (.s []),.bS (0,2) (T i)],.tok 2 (T i)]::S)
  (fun i=>i<=xs.length) (fun i=>xs.length-i) 0 rfl rfl (Nat.zero_le _) ?_
 intro i hi;have hl:=iG i;simp -implicitDefEqProofs (disch:=omega) only[go_sem]
 with_reducible refine aD (fun hb=> ?_) (fun hb=> ?_)<;>have h:=hb<;>(try simp only[wf_preprocess] at h)<;>simp -implicitDefEqProofs (disch:=omega) only[go_sem,hb]<;>(repeat(with_reducible refine And.intro ?_ ?_;focus first|omega|rfl|assumption|exact⟨_,rfl,rfl⟩|(simp;omega)|(simp;done)))
 ·have hi':i<xs.length:=by omega
  have hs:=hTs i hi'
  (repeat(with_reducible refine And.intro ?_ ?_;focus first|omega|rfl|assumption|exact⟨_,rfl,rfl⟩|(simp;omega)|(simp;done)))
  refine aB (hA xs[i] (List.getElem_mem hi')) ?_;simp -implicitDefEqProofs (disch:=omega) only[go_sem]
  (repeat(with_reducible refine And.intro ?_ ?_;focus first|omega|rfl|assumption|exact⟨_,rfl,rfl⟩|(simp;omega)|(simp;done)))
  rw[hs];exact cZ (i+1) (by omega) rfl rfl (by omega)
 ·have hi':i=xs.length:=by omega
  subst hi';rfl
theorem RJ(hd:List au)(xs:List aC)(cK:List Ab.Obj)(Ω:Store)(hA:∀t∈xs,bg prog 270 [t.v] (fQ t).v)(hl:xs.length<=4194304)(hh:hd.length<=4):cB prog 277 [.c (.bI (hd.map au.enc)),.c (.d (.sl (xs.map aC.enc)))] (cK::Ω)
 (fun r S'=>r=.agg [.d (.s []),.bS (0,cK.length+2) ((hd++xs.map fQ).map au.enc)]/\S'=(cK++[.box [.d (.s []),.bS (0,cK.length+2) ((hd++xs.map fQ).map au.enc)],.box [.d (.s []),.bS (0,cK.length+2) ((hd++xs.map fQ).map au.enc)],.tok 2 ((hd++xs.map fQ).map au.enc)])::Ω):=by
 obtain⟨T,hT⟩:∃T:Nat->List (List D),T=fun i=>(hd++(xs.map fQ).take i).map au.enc:=⟨_,rfl⟩
 have hT0:T 0=hd.map au.enc:=by rw[hT];simp only[List.take_zero,List.append_nil]
 have iG:∀i,(T i).length<=i+hd.length:=fun i=>by
  rw[hT];simp only[List.length_map,List.length_append];have:=List.length_take_le i (xs.map fQ);omega
 have hTs:∀i (hi:i<xs.length),T i++[[.s (fQ xs[i]).bK,.sl ((fQ xs[i]).aA.map au.enc)]]=T (i+1):=fun i hi=>by
  have:=iP (base:=hd) (l:=xs.map fQ) (i:=i) (by rw[List.length_map];exact hi);rw[List.getElem_map] at this;rw[hT];exact this
 have hTe:T xs.length=(hd++xs.map fQ).map au.enc:=by rw[hT];simp only;rw[List.take_of_length_le (by simp)]
 clear hT;rw[<-hT0];rw[<-hTe];refine F7 (rs:=[.cell 4 202]) zmx func277 ntmps277 rfl rfl rfl rfl rfl ?_;simp -implicitDefEqProofs (disch:=omega) only[go_sem];refine qX 1 1 2 (T 0) [.d (.s []),.bI (T 0)] rfl rfl (by rw[hT0];exact jk) ?_
 refine bO (ι:=Nat) zmx rfl [1,4,5,6] (fun i=>[.c (.d (.sl (xs.map aC.enc))),.c (.ptr (0,0) 0),.c (.ptr (0,1) 0),.c (.d (.i .i64 i))])
  (fun i=>[.box [.d (.s []),.bI []],.box [.d (.s []),.bS (0,2) (T i)],.tok 2 (T i)]::cK::Ω)
  (fun i=>i<=xs.length) (fun i=>xs.length-i) 0 rfl rfl (Nat.zero_le _) ?_
 intro i hi;have hl:=iG i;simp -implicitDefEqProofs (disch:=omega) only[go_sem]
 with_reducible refine aD (fun hb=> ?_) (fun hb=> ?_)<;>have h:=hb<;>(try simp only[wf_preprocess] at h)<;>simp -implicitDefEqProofs (disch:=omega) only[go_sem,hb]<;>(repeat(with_reducible refine And.intro ?_ ?_;focus first|omega|rfl|assumption|exact⟨_,rfl,rfl⟩|(simp;omega)|(simp;done)))
 ·have hi':i<xs.length:=by omega
  have hs:=hTs i hi'
  (repeat(with_reducible refine And.intro ?_ ?_;focus first|omega|rfl|assumption|exact⟨_,rfl,rfl⟩|(simp;omega)|(simp;done)))
  refine aB (hA xs[i] (List.getElem_mem hi')) ?_;simp -implicitDefEqProofs (disch:=omega) only[go_sem]
  (repeat(with_reducible refine And.intro ?_ ?_;focus first|omega|rfl|assumption|exact⟨_,rfl,rfl⟩|(simp;omega)|(simp;done)))
  rw[hs];exact cZ (i+1) (by omega) rfl rfl (by omega)
 ·have hi':i=xs.length:=by omega
  subst hi';exact⟨rfl,rfl⟩
theorem Lm:∀N:Nat,∀x:aC,SizeOf.sizeOf x<N->jd x=true->x.sz<=4194304->bg prog 270 [x.v] (fQ x).v
 |0=>fun x h=>by omega
 |N+1=>by
  have ih:=Lm N;intro x hn hok hsz S;have nu:=aC.jW x;have Ie:=aC.xW x;have hzz:=yj x;rw[Oa,Bool.and_eq_true,Bool.and_eq_true] at hok;obtain⟨hfi,hoa,hom⟩:=hok;have hfi:=gP hfi;have hoa:=IY.1 hoa;have hom:=Ll.1 hom;have hA:∀t∈x.fArgs,bg prog 270 [t.v] (fQ t).v:=fun t ht=>ih t (by have:=List.sizeOf_lt_of_mem ht;omega) (hoa t ht) (by have:=aaM ht;omega);have hxe:=RI x;refine zcx [.cell 2 202] func270 ntmps270 ?_;simp -implicitDefEqProofs (disch:=omega) only[go_sem]
  with_reducible refine aD (fun hb=> ?_) (fun hb=> ?_)<;>have h:=hb<;>(try simp only[wf_preprocess] at h)<;>simp -implicitDefEqProofs (disch:=omega) only[go_sem,hb]<;>(repeat(with_reducible refine And.intro ?_ ?_;focus first|omega|rfl|assumption|exact⟨_,rfl,rfl⟩|(simp;omega)|(simp;done)))
  ·rw[if_pos h] at hxe;rw[hxe];have hb:=hfi.2.2.2.1;rw[if_pos h] at hb;refine aB (vM x.fN (by omega) (by omega)) ?_;simp -implicitDefEqProofs (disch:=omega) only[go_sem];refine aB (bT _) ?_;simp -implicitDefEqProofs (disch:=omega) only[go_sem];rfl
  have k1:=h;rw[if_neg h] at hxe
  with_reducible refine aD (fun hb=> ?_) (fun hb=> ?_)<;>have h:=hb<;>(try simp only[wf_preprocess] at h)<;>simp -implicitDefEqProofs (disch:=omega) only[go_sem,hb]<;>(repeat(with_reducible refine And.intro ?_ ?_;focus first|omega|rfl|assumption|exact⟨_,rfl,rfl⟩|(simp;omega)|(simp;done)))
  ·rw[if_pos h] at hxe;rw[hxe];have hb:=hfi.2.2.2.1;rw[if_neg k1,if_pos h] at hb;rcases hb with e|e
   ·rw[e];simp -implicitDefEqProofs (disch:=omega) only[go_sem,List.getD_cons_zero]
    (repeat(with_reducible refine And.intro ?_ ?_;focus first|omega|rfl|assumption|exact⟨_,rfl,rfl⟩|(simp;omega)|(simp;done)))
    refine aB (bT _) ?_;simp -implicitDefEqProofs (disch:=omega) only[go_sem];rfl
   ·rw[e];simp -implicitDefEqProofs (disch:=omega) only[go_sem,List.getD_cons_zero,List.getD_cons_succ]
    (repeat(with_reducible refine And.intro ?_ ?_;focus first|omega|rfl|assumption|exact⟨_,rfl,rfl⟩|(simp;omega)|(simp;done)))
    refine aB (bT _) ?_;simp -implicitDefEqProofs (disch:=omega) only[go_sem];rfl
  have k2:=h;rw[if_neg h] at hxe
  with_reducible refine aD (fun hb=> ?_) (fun hb=> ?_)<;>have h:=hb<;>(try simp only[wf_preprocess] at h)<;>simp -implicitDefEqProofs (disch:=omega) only[go_sem,hb]<;>(repeat(with_reducible refine And.intro ?_ ?_;focus first|omega|rfl|assumption|exact⟨_,rfl,rfl⟩|(simp;omega)|(simp;done)))
  ·rw[if_pos h] at hxe;rw[hxe];refine aB (bT _) ?_;simp -implicitDefEqProofs (disch:=omega) only[go_sem];rfl
  have k3:=h;clear hxe
  with_reducible refine aD (fun hb=> ?_) (fun hb=> ?_)<;>have h:=hb<;>(try simp only[wf_preprocess] at h)<;>simp -implicitDefEqProofs (disch:=omega) only[go_sem,hb]<;>(repeat(with_reducible refine And.intro ?_ ?_;focus first|omega|rfl|assumption|exact⟨_,rfl,rfl⟩|(simp;omega)|(simp;done)))
  ·have hx:=uF k1 k2 k3 (by omega)
   have hh:kC x.aV x.bU x.fName x.fType=[bR pU,bR x.fName]:=by rw[rR h];rfl
   rw[hh] at hx;refine aB (bT _) ?_;simp -implicitDefEqProofs (disch:=omega) only[go_sem];refine aB (bT _) ?_;simp -implicitDefEqProofs (disch:=omega) only[go_sem];have hE:=fun S=>nU [bR pU,bR x.fName] x.fArgs S hA (by omega) (by simp);simp only[List.map_cons,List.map_nil,eY] at hE;refine bE rfl (hE _) ?_;simp -implicitDefEqProofs (disch:=omega) only[go_sem];rw[hx];rfl
  have k4:=h
  with_reducible refine aD (fun hb=> ?_) (fun hb=> ?_)<;>have h:=hb<;>(try simp only[wf_preprocess] at h)<;>simp -implicitDefEqProofs (disch:=omega) only[go_sem,hb]<;>(repeat(with_reducible refine And.intro ?_ ?_;focus first|omega|rfl|assumption|exact⟨_,rfl,rfl⟩|(simp;omega)|(simp;done)))
  ·have hx:=uF k1 k2 k3 (by omega)
   have hh:kC x.aV x.bU x.fName x.fType=[bR jO,bR x.bU,bR x.fName]:=by rw[rR h];rfl
   rw[hh] at hx;refine aB (bT _) ?_;simp -implicitDefEqProofs (disch:=omega) only[go_sem];refine aB (bT _) ?_;simp -implicitDefEqProofs (disch:=omega) only[go_sem];refine aB (bT _) ?_;simp -implicitDefEqProofs (disch:=omega) only[go_sem];have hE:=fun S=>nU [bR jO,bR x.bU,bR x.fName] x.fArgs S hA (by omega) (by simp);simp only[List.map_cons,List.map_nil,eY] at hE;refine bE rfl (hE _) ?_;simp -implicitDefEqProofs (disch:=omega) only[go_sem];rw[hx];rfl
  have k5:=h
  with_reducible refine aD (fun hb=> ?_) (fun hb=> ?_)<;>have h:=hb<;>(try simp only[wf_preprocess] at h)<;>simp -implicitDefEqProofs (disch:=omega) only[go_sem,hb]<;>(repeat(with_reducible refine And.intro ?_ ?_;focus first|omega|rfl|assumption|exact⟨_,rfl,rfl⟩|(simp;omega)|(simp;done)))
  ·have hx:=uF k1 k2 k3 (by omega)
   have hh:kC x.aV x.bU x.fName x.fType=[bR uD,bR x.fName]:=by rw[rR h];rfl
   rw[hh] at hx;refine aB (bT _) ?_;simp -implicitDefEqProofs (disch:=omega) only[go_sem];refine aB (bT _) ?_;simp -implicitDefEqProofs (disch:=omega) only[go_sem];have hE:=fun S=>nU [bR uD,bR x.fName] x.fArgs S hA (by omega) (by simp);simp only[List.map_cons,List.map_nil,eY] at hE;refine bE rfl (hE _) ?_;simp -implicitDefEqProofs (disch:=omega) only[go_sem];rw[hx];rfl
  have k6:=h
  with_reducible refine aD (fun hb=> ?_) (fun hb=> ?_)<;>have h:=hb<;>(try simp only[wf_preprocess] at h)<;>simp -implicitDefEqProofs (disch:=omega) only[go_sem,hb]<;>(repeat(with_reducible refine And.intro ?_ ?_;focus first|omega|rfl|assumption|exact⟨_,rfl,rfl⟩|(simp;omega)|(simp;done)))
  ·have hx:=uF k1 k2 k3 (by omega)
   have hh:kC x.aV x.bU x.fName x.fType=[bR uE,bR x.fName]:=by rw[rR h];rfl
   rw[hh] at hx;refine aB (bT _) ?_;simp -implicitDefEqProofs (disch:=omega) only[go_sem];refine aB (bT _) ?_;simp -implicitDefEqProofs (disch:=omega) only[go_sem];have hE:=fun S=>nU [bR uE,bR x.fName] x.fArgs S hA (by omega) (by simp);simp only[List.map_cons,List.map_nil,eY] at hE;refine bE rfl (hE _) ?_;simp -implicitDefEqProofs (disch:=omega) only[go_sem];rw[hx];rfl
  have k8:=h
  with_reducible refine aD (fun hb=> ?_) (fun hb=> ?_)<;>have h:=hb<;>(try simp only[wf_preprocess] at h)<;>simp -implicitDefEqProofs (disch:=omega) only[go_sem,hb]<;>(repeat(with_reducible refine And.intro ?_ ?_;focus first|omega|rfl|assumption|exact⟨_,rfl,rfl⟩|(simp;omega)|(simp;done)))
  ·have hx:=uF k1 k2 k3 (by omega)
   have hh:kC x.aV x.bU x.fName x.fType=[bR ze]:=by rw[rR h];rfl
   rw[hh] at hx;refine aB (bT _) ?_;simp -implicitDefEqProofs (disch:=omega) only[go_sem];have hE:=fun S=>nU [bR ze] x.fArgs S hA (by omega) (by simp);simp only[List.map_cons,List.map_nil,eY] at hE;refine bE rfl (hE _) ?_;simp -implicitDefEqProofs (disch:=omega) only[go_sem];rw[hx];rfl
  have k9:=h
  with_reducible refine aD (fun hb=> ?_) (fun hb=> ?_)<;>have h:=hb<;>(try simp only[wf_preprocess] at h)<;>simp -implicitDefEqProofs (disch:=omega) only[go_sem,hb]<;>(repeat(with_reducible refine And.intro ?_ ?_;focus first|omega|rfl|assumption|exact⟨_,rfl,rfl⟩|(simp;omega)|(simp;done)))
  ·have hx:=uF k1 k2 k3 (by omega)
   have hh:kC x.aV x.bU x.fName x.fType=[bR x.fName]:=by rw[rR h];rfl
   rw[hh] at hx;refine aB (bT _) ?_;simp -implicitDefEqProofs (disch:=omega) only[go_sem];have hE:=fun S=>nU [bR x.fName] x.fArgs S hA (by omega) (by simp);simp only[List.map_cons,List.map_nil,eY] at hE;refine bE rfl (hE _) ?_;simp -implicitDefEqProofs (disch:=omega) only[go_sem];rw[hx];rfl
  have k10:=h
  with_reducible refine aD (fun hb=> ?_) (fun hb=> ?_)<;>have h:=hb<;>(try simp only[wf_preprocess] at h)<;>simp -implicitDefEqProofs (disch:=omega) only[go_sem,hb]<;>(repeat(with_reducible refine And.intro ?_ ?_;focus first|omega|rfl|assumption|exact⟨_,rfl,rfl⟩|(simp;omega)|(simp;done)))
  ·have hx:=uF k1 k2 k3 (by omega)
   have hh:kC x.aV x.bU x.fName x.fType=[bR pV,bR x.bU]:=by rw[rR h];rfl
   rw[hh] at hx;refine aB (bT _) ?_;simp -implicitDefEqProofs (disch:=omega) only[go_sem];refine aB (bT _) ?_;simp -implicitDefEqProofs (disch:=omega) only[go_sem];have hE:=fun S=>nU [bR pV,bR x.bU] x.fArgs S hA (by omega) (by simp);simp only[List.map_cons,List.map_nil,eY] at hE;refine bE rfl (hE _) ?_;simp -implicitDefEqProofs (disch:=omega) only[go_sem];rw[hx];rfl
  have k11:=h
  with_reducible refine aD (fun hb=> ?_) (fun hb=> ?_)<;>have h:=hb<;>(try simp only[wf_preprocess] at h)<;>simp -implicitDefEqProofs (disch:=omega) only[go_sem,hb]<;>(repeat(with_reducible refine And.intro ?_ ?_;focus first|omega|rfl|assumption|exact⟨_,rfl,rfl⟩|(simp;omega)|(simp;done)))
  ·have hx:=uF k1 k2 k3 (by omega)
   have hh:kC x.aV x.bU x.fName x.fType=[bR tC,dR x.fType]:=by rw[rR h];rfl
   rw[hh] at hx;refine aB (bT _) ?_;simp -implicitDefEqProofs (disch:=omega) only[go_sem];refine aB (ku x.fType (by omega)) ?_;simp -implicitDefEqProofs (disch:=omega) only[go_sem];have hE:=fun S=>nU [bR tC,dR x.fType] x.fArgs S hA (by omega) (by simp);simp only[List.map_cons,List.map_nil,eY,au.aj (dR x.fType)] at hE;refine bE rfl (hE _) ?_;simp -implicitDefEqProofs (disch:=omega) only[go_sem];rw[hx];show _=V.agg [.d (.s []),.d (.sl (List.map au.enc (bR tC::dR x.fType::x.fArgs.map fQ)))];simp only[List.cons_append,List.nil_append,List.map_cons,eY,au.aj (dR x.fType)];rfl
  have k12:=h
  have hk7:x.aV=7:=by have:=hfi.1;omega
  have hx:=RI x;rw[if_neg k1,if_neg k2,if_neg k3,if_neg (by omega)] at hx
  have hh:kC x.aV x.bU x.fName x.fType=[bR lX]:=by rw[rR hk7];rfl
  rw[hh] at hx;refine aB (bT _) ?_;simp -implicitDefEqProofs (disch:=omega) only[go_sem];have hE:=fun cK Ω=>RJ [bR lX] x.fArgs cK Ω hA (by omega) (by simp);obtain⟨B,hB⟩:∃B:Nat->List (List D),B=fun i=>(([bR lX]++x.fArgs.map fQ)++(x.bH.map DF).take i).map au.enc:=⟨_,rfl⟩
  have hB0:([bR lX]++x.fArgs.map fQ).map au.enc=B 0:=by rw[hB];simp only[List.take_zero,List.append_nil]
  have hBl:∀i,(B i).length<=i+x.fArgs.length+1:=fun i=>by
   rw[hB];simp only[List.length_append,List.length_map,List.length_cons,List.length_nil];have:=List.length_take_le i (x.bH.map DF);omega
  have hBr:∀i,∀r∈B i,r.length=2:=fun i=>by rw[hB];exact jk
  have hBs:∀i (hi:i<x.bH.length),B i++[[.s [],.sl (([bR x.bH[i].fK]++dn x.bH[i].aS++[fQ x.bH[i].fBody]).map au.enc)]]=B (i+1):=fun i hi=>by
   have:=iP (base:=[bR lX]++x.fArgs.map fQ) (l:=x.bH.map DF) (i:=i) (by rw[List.length_map];exact hi);rw[List.getElem_map,aiH,lI,iy] at this;rw[hB];exact this
  have hBe:B x.bH.length=([bR lX]++x.fArgs.map fQ++x.bH.map DF).map au.enc:=by rw[hB];simp only;rw[List.take_of_length_le (by simp)]
  clear hB;simp only[hB0] at hE;simp only[List.map_cons,List.map_nil,eY] at hE;refine bE rfl (hE _ _) ?_;simp -implicitDefEqProofs (disch:=omega) only[go_sem]
  refine bO (ι:=Nat) zmx rfl [1,2,3,4] (fun i=>[.c (.ptr (0,0) 0),.c (.ptr (0,1) 0),.c (.ptr (0,5) 0),.c (.d (.i .i64 i))])
   (fun i=>[.box [.d (.i .i64 x.aV),.d (.s x.bU),.d (.s x.fName),.d (.i .i64 x.fN),.d (.i .i64 x.fType.aV),.d (.s x.fType.fName),.d (.sl (x.fType.fArgs.map ay.enc)),.d (.sl (x.fArgs.map aC.enc)),.d (.sl (x.bH.map bn.enc))],.box [.d (.s []),.bI []],.box [.d (.s []),.bS (0,4) (B 0)],.box [.d (.s []),.bS (0,4) (B 0)],.tok 2 (B i),.box [.d (.s []),.bS (0,4) (B i)]]::S)
   (fun i=>i<=x.bH.length) (fun i=>x.bH.length-i) 0 rfl rfl (Nat.zero_le _) ?_
  intro i hi;have hl:=hBl i;have hr:=hBr i;simp -implicitDefEqProofs (disch:=omega) only[go_sem]
  with_reducible refine aD (fun hb=> ?_) (fun hb=> ?_)<;>have h:=hb<;>(try simp only[wf_preprocess] at h)<;>simp -implicitDefEqProofs (disch:=omega) only[go_sem,hb]<;>(repeat(with_reducible refine And.intro ?_ ?_;focus first|omega|rfl|assumption|exact⟨_,rfl,rfl⟩|(simp;omega)|(simp;done)))
  ·have hi':i<x.bH.length:=by omega
   have hm:=List.getElem_mem hi';have hez:=X3 hm;have hea:=Ca x.bH[i];have hs:=hBs i hi';have hak:=hom _ hm;rw[xZ,Bool.and_eq_true,Bool.and_eq_true] at hak;have hls:=List.sizeOf_lt_of_mem hm;have hlb:=bn.vV x.bH[i]
   (repeat(with_reducible refine And.intro ?_ ?_;focus first|omega|rfl|assumption|exact⟨_,rfl,rfl⟩|(simp;omega)|(simp;done)))
   refine aB (bT _) ?_;simp -implicitDefEqProofs (disch:=omega) only[go_sem]
   (repeat(with_reducible refine And.intro ?_ ?_;focus first|omega|rfl|assumption|exact⟨_,rfl,rfl⟩|(simp;omega)|(simp;done)))
   refine aB (Gt x.bH[i].aS (by omega)) ?_;have hwr:=jk (l:=dn x.bH[i].aS)
   have hwl:(dn x.bH[i].aS).length=x.bH[i].aS.length:=by rw[kZ]
   simp -implicitDefEqProofs (disch:=omega) only[go_sem]
   (repeat(with_reducible refine And.intro ?_ ?_;focus first|omega|rfl|assumption|exact⟨_,rfl,rfl⟩|(simp;omega)|(simp;done)))
   refine aB (ih x.bH[i].fBody (by omega) hak.2.2 (by omega)) ?_;simp -implicitDefEqProofs (disch:=omega) only[go_sem]
   (repeat(with_reducible refine And.intro ?_ ?_;focus first|omega|rfl|assumption|exact⟨_,rfl,rfl⟩|(simp;omega)|(simp;done)))
   simp only[List.cons_append,List.nil_append,List.map_cons,List.map_nil,List.map_append,eY,au.aj (fQ x.bH[i].fBody)] at hs;rw[hs];exact dZ 6 (by decide) (i+1) (by omega) rfl rfl rfl rfl (by omega)
  ·have hi':i=x.bH.length:=by omega
   subst hi';rw[hx,hBe];rfl
theorem rA(x:aC)(hok:jd x=true)(hsz:x.sz<=4194304):bg prog 270 [x.v] (fQ x).v:=Lm _ x (Nat.lt_succ_self _) hok hsz
theorem RL{x:aC}(h:vY x=true):jd x=true:=by rw[vY,Bool.and_eq_true] at h;exact h.2
noncomputable def EB(k:Int)(n:List UInt8)(bound out:List (List UInt8)):List (List UInt8):=if k=3/\n∉bound/\n∉out then out++[n] else out
mutual
noncomputable def ny:aC->List (List UInt8)->List (List UInt8)->List (List UInt8)
 | .mk k _ n _ _ a b,bound,out=>wZ b bound (uM a k n 0 bound (EB k n bound out))
noncomputable def uM:List aC->Int->List UInt8->Nat->List (List UInt8)->List (List UInt8)->List (List UInt8)
 |[],_,_,_,_,out=>out
 |x::xs,k,n,i,bound,out=>uM xs k n (i+1) bound (ny x (if k=8/\i=1 then bound++[n] else bound) out)
noncomputable def wZ:List bn->List (List UInt8)->List (List UInt8)->List (List UInt8)
 |[],_,out=>out
 |x::xs,bound,out=>wZ xs bound (EC x bound out)
noncomputable def EC:bn->List (List UInt8)->List (List UInt8)->List (List UInt8)
 | .mk _ v b,bound,out=>ny b (bound++v) out
end
theorem ad2(x:aC)(bound out:List (List UInt8)):ny x bound out=wZ x.bH bound (uM x.fArgs x.aV x.fName 0 bound (EB x.aV x.fName bound out)):=by cases x;rw[ny];rfl
theorem ad3(x:bn)(bound out:List (List UInt8)):EC x bound out=ny x.fBody (bound++x.aS) out:=by cases x;rw[EC];rfl
theorem X4{xs:List aC}{k:Int}{n:List UInt8}{i:Nat}{bound out:List (List UInt8)}(hi:i<xs.length):uM (xs.drop i) k n i bound out=uM (xs.drop (i+1)) k n (i+1) bound (ny xs[i] (if k=8/\i=1 then bound++[n] else bound) out):=by
 rw[List.drop_eq_getElem_cons hi,uM]
theorem X5{xs:List bn}{i:Nat}{bound out:List (List UInt8)}(hi:i<xs.length):wZ (xs.drop i) bound out=wZ (xs.drop (i+1)) bound (EC xs[i] bound out):=by
 rw[List.drop_eq_getElem_cons hi,wZ]
theorem RN(k:Int)(n:List UInt8)(bound out:List (List UInt8)):(EB k n bound out).length<=out.length+1:=by
 unfold EB;split<;>simp
mutual
theorem zf:∀(x:aC)(bound out:List (List UInt8)),(ny x bound out).length<=out.length+x.cnt
 | .mk k t n m ty a b,bound,out=>by
   have h1:=RN k n bound out;have h2:=Om a k n 0 bound (EB k n bound out);have h3:=Oo b bound (uM a k n 0 bound (EB k n bound out));rw[ny,aC.cnt];omega
theorem Om:∀(xs:List aC)(k:Int)(n:List UInt8)(i:Nat)(bound out:List (List UInt8)),(uM xs k n i bound out).length<=out.length+aC.gq xs
 |[],k,n,i,bound,out=>by rw[uM,aC.gq];omega
 |x::xs,k,n,i,bound,out=>by
  have h1:=zf x (if k=8/\i=1 then bound++[n] else bound) out;have h2:=Om xs k n (i+1) bound (ny x (if k=8/\i=1 then bound++[n] else bound) out);rw[uM,aC.gq];omega
theorem Oo:∀(xs:List bn)(bound out:List (List UInt8)),(wZ xs bound out).length<=out.length+bn.gq xs
 |[],bound,out=>by rw[wZ,bn.gq];omega
 |x::xs,bound,out=>by
  have h1:=aaN x bound out;have h2:=Oo xs bound (EC x bound out);rw[wZ,bn.gq];omega
theorem aaN:∀(x:bn)(bound out:List (List UInt8)),(EC x bound out).length<=out.length+x.cnt
 | .mk c v b,bound,out=>by
   have h1:=zf b (bound++v) out;rw[EC,bn.cnt];omega
end
theorem aC.Dx{x:aC}{i:Nat}(hi:i<x.fArgs.length):x.fArgs[i].sz+x.fArgs.length<=x.sz:=by
 have hx:x.fArgs[i].sz<=aN (x.fArgs.map aC.enc):=dx (List.mem_map_of_mem (List.getElem_mem hi));have:=aC.Jw x;omega
theorem aC.aiL{x:aC}{i:Nat}(hi:i<x.bH.length):x.bH[i].sz+x.bH.length<=x.sz:=by
 have hx:x.bH[i].sz<=aN (x.bH.map bn.enc):=dx (List.mem_map_of_mem (List.getElem_mem hi));have:=aC.Jw x;omega
theorem bn.agN(x:bn):x.aS.length+x.fBody.sz<=x.sz:=by
 simp only[bn.sz,bn.aj,aC.sz,bD,aY,D.sz,List.length_map];omega
theorem X6(xs:List (List UInt8))(s:List UInt8):xs.map encS++[[D.s s]]=(xs++[s]).map encS:=by simp[encS]
theorem Gw:∀N:Nat,∀x:aC,SizeOf.sizeOf x<N->x.sz<=4194304->∀(bound out:List (List UInt8))(l j:Nat)(S:Store),bA S (l,j)=some (.tok 1 (out.map encS))->out.length+x.cnt<=1073741824->bound.length+x.sz<=1073741824->
 cB prog 213 [x.v,.c (.d (.sl (bound.map encS))),.c (.bS (l,j) (out.map encS))] S (fun r S'=>r=.c (.bS (l,j) ((ny x bound out).map encS))/\S'=bq S (l,j) (.tok 1 ((ny x bound out).map encS)))
 |0=>fun x h=>by omega
 |N+1=>by
  have ih:=Gw N;intro x hn hsz bound out l j S hk hc hbd;have hb0:=aC.Jw x;have nu:=aC.jW x;have Ie:=aC.xW x;have hcn:=aC.A9 x;have hkS:∀y:Ab.Obj,bA (bq S (l,j) y) (l,j)=some y:=fun y=>dw _ _ _ _ hk;have hS0:bq S (l,j) (.tok 1 (out.map encS))=S:=BO _ _ hk;have fin:=ad2 x bound out;have hal:=RN x.aV x.fName bound out;obtain⟨o1,ho1⟩:∃o1,EB x.aV x.fName bound out=o1:=⟨_,rfl⟩;rw[ho1] at fin hal;refine(show Hold ?T->_ from fun tail=> ?main) ?tp
  case' main=>
   refine zcx [.tmp 6] func213 ntmps213 ?_;simp -implicitDefEqProofs (disch:=omega) only[go_sem,hk]
   repeat' (first
    |(with_reducible refine aD (fun hb=> ?_) (fun hb=> ?_)<;>have h:=hb<;>(try simp only[wf_preprocess] at h)<;>simp -implicitDefEqProofs (disch:=omega) only[go_sem,hb,hk]<;>(repeat(with_reducible refine And.intro ?_ ?_;focus first|omega|rfl|assumption|exact⟨_,rfl,rfl⟩|(simp;omega)|(simp;done))))
    |(refine aB (ou bound x.fName (by omega)) ?_;simp -implicitDefEqProofs (disch:=omega) only[go_sem,hk];(repeat(with_reducible refine And.intro ?_ ?_;focus first|omega|rfl|assumption|exact⟨_,rfl,rfl⟩|(simp;omega)|(simp;done))))
    |(refine aB (ou out x.fName (by omega)) ?_;simp -implicitDefEqProofs (disch:=omega) only[go_sem,hk];(repeat(with_reducible refine And.intro ?_ ?_;focus first|omega|rfl|assumption|exact⟨_,rfl,rfl⟩|(simp;omega)|(simp;done)))))
   all_goals first
    |(have ha:EB x.aV x.fName bound out=out++[x.fName]:=if_pos ⟨by assumption,by assumption,by assumption⟩)
    |(have ha:EB x.aV x.fName bound out=out:=if_neg (fun y=>by have:=y.1;have:=y.2.1;have:=y.2.2;contradiction))
   all_goals
    refine Bd (st':=[.box (x.enc.map .d)]::bq S (l,j) (.tok 1 (o1.map encS))) [1,2,3,7] [.c (.d (.sl (bound.map encS))),.c (.bS (1+l,j) (o1.map encS)),.c (.ptr (0,0) 0),.c (.d (.i .i64 0))] ?_ ?_ ?_
    ·first|(rw[<-ho1,ha];rfl)|(rw[<-ho1,ha,<-X6];rfl)
    ·first|(rw[<-ho1,ha,hS0];simp -implicitDefEqProofs (disch:=omega) only[go_sem];done)|(rw[<-ho1,ha,<-X6];simp -implicitDefEqProofs (disch:=omega) only[go_sem];done)
    ·exact tail.out
  refine⟨?_⟩;clear ho1
  refine bO (ι:=Nat×List (List UInt8)) zmx rfl [1,2,3,7] (fun y=>[.c (.d (.sl (bound.map encS))),.c (.bS (1+l,j) (y.2.map encS)),.c (.ptr (0,0) 0),.c (.d (.i .i64 y.1))]) (fun y=>[.box (x.enc.map .d)]::bq S (l,j) (.tok 1 (y.2.map encS)))
   (fun y=>y.1<=x.fArgs.length/\y.2.length+aC.gq (x.fArgs.drop y.1)+bn.gq x.bH<=1073741824/\uM (x.fArgs.drop y.1) x.aV x.fName y.1 bound y.2=uM x.fArgs x.aV x.fName 0 bound o1) (fun y=>x.fArgs.length-y.1) (0,o1) rfl rfl ⟨Nat.zero_le _,by simp only[List.drop_zero];omega,rfl⟩ ?_
  rintro⟨i,o⟩ ⟨p1,p2,p3⟩
  have refs:∀{a b},oo 1 (jQ [1,2,3,7] [.c (.d (.sl (bound.map encS))),.c (.bS (1+l,j) a),.c (.ptr (0,0) 0),.c (.d (.i .i64 b))])=true:=fun {a b}=>by simp[oo,jQ,V.refs,C.refs,oP];omega
  simp only at p1 p2 p3;simp -implicitDefEqProofs (disch:=omega) only[go_sem]
  with_reducible refine aD (fun hb=> ?_) (fun hb=> ?_)<;>have h:=hb<;>(try simp only[wf_preprocess] at h)<;>simp -implicitDefEqProofs (disch:=omega) only[go_sem,hb]<;>(repeat(with_reducible refine And.intro ?_ ?_;focus first|omega|rfl|assumption|exact⟨_,rfl,rfl⟩|(simp;omega)|(simp;done)))
  ·have hi:i<x.fArgs.length:=by omega
   have hs:=List.sizeOf_lt_of_mem (List.getElem_mem hi);have hz:=aC.Dx hi;rw[X4 hi] at p3;rw[aC.qY hi] at p2;have hlo:=zf x.fArgs[i] (if x.aV=8/\i=1 then bound++[x.fName] else bound) o
   have two:x.fArgs[i].sz+(bound.length+1)<=1073741824:=by omega
   repeat' (first|with_reducible refine aD (fun hb=> ?_) (fun hb=> ?_)<;>have h:=hb<;>(try simp only[wf_preprocess] at h)<;>simp -implicitDefEqProofs (disch:=omega) only[go_sem,hb]<;>(repeat(with_reducible refine And.intro ?_ ?_;focus first|omega|rfl|assumption|exact⟨_,rfl,rfl⟩|(simp;omega)|(simp;done))))
   ·have e1:x.aV=8/\i=1:=⟨by omega,by omega⟩;rw[if_pos e1] at p3 hlo;refine⟨JI,⟨_,rfl,rfl⟩,fun y hy=>(by cases hy),by omega,?_⟩
    (repeat(with_reducible refine And.intro ?_ ?_;focus first|omega|rfl|assumption|exact⟨_,rfl,rfl⟩|(simp;omega)|(simp;done)))
    rw[X6];refine bZ [true,false,true] rfl (ih x.fArgs[i] (by omega) (by omega) (bound++[x.fName]) o (1+l) j _ (by simp -implicitDefEqProofs (disch:=omega) only[go_sem];exact hkS _) (by omega) (by simp only[List.length_append,List.length_cons,List.length_nil];omega)) ?_;simp -implicitDefEqProofs (disch:=omega) only[go_sem,ah];exact dZ 1 (by decide) (i+1,ny x.fArgs[i] (bound++[x.fName]) o) (by simp only;omega) rfl rfl refs rfl ⟨by simp only;omega,by simp only;omega,p3⟩
   all_goals
    have e1:¬(x.aV=8/\i=1):=fun h=>by omega
    rw[if_neg e1] at p3 hlo
    (repeat(with_reducible refine And.intro ?_ ?_;focus first|omega|rfl|assumption|exact⟨_,rfl,rfl⟩|(simp;omega)|(simp;done)))
    refine bE rfl (ih x.fArgs[i] (by omega) (by omega) bound o (1+l) j _ (by simp -implicitDefEqProofs (disch:=omega) only[go_sem];exact hkS _) (by omega) (by omega)) ?_;simp -implicitDefEqProofs (disch:=omega) only[go_sem,ah];exact dZ 1 (by decide) (i+1,ny x.fArgs[i] bound o) (by simp only;omega) rfl rfl refs rfl ⟨by simp only;omega,by simp only;omega,p3⟩
  have hi:i=x.fArgs.length:=by omega
  rw[hi,List.drop_length] at p2 p3;rw[aC.gq] at p2;rw[uM] at p3;rw[<-p3] at fin;clear p3 refs
  refine bO (ι:=Nat×List (List UInt8)) zmx rfl [1,2,3,9] (fun y=>[.c (.d (.sl (bound.map encS))),.c (.bS (1+l,j) (y.2.map encS)),.c (.ptr (0,0) 0),.c (.d (.i .i64 y.1))]) (fun y=>[.box (x.enc.map .d)]::bq S (l,j) (.tok 1 (y.2.map encS)))
   (fun y=>y.1<=x.bH.length/\y.2.length+bn.gq (x.bH.drop y.1)<=1073741824/\wZ (x.bH.drop y.1) bound y.2=ny x bound out) (fun y=>x.bH.length-y.1) (0,o) rfl ?_ ⟨Nat.zero_le _,by simp only[List.drop_zero];omega,fin.symm⟩ ?_
  ·simp -implicitDefEqProofs (disch:=omega) only[go_sem]
  clear p1 p2 fin hal;rintro⟨i,o⟩ ⟨p1,p2,p3⟩
  have refs:∀a b,oo 1 (jQ [1,2,3,9] [.c (.d (.sl (bound.map encS))),.c (.bS (1+l,j) a),.c (.ptr (0,0) 0),.c (.d (.i .i64 b))])=true:=fun a b=>by simp[oo,jQ,V.refs,C.refs,oP];omega
  simp only at p1 p2 p3;simp -implicitDefEqProofs (disch:=omega) only[go_sem]
  with_reducible refine aD (fun hb=> ?_) (fun hb=> ?_)<;>have h:=hb<;>(try simp only[wf_preprocess] at h)<;>simp -implicitDefEqProofs (disch:=omega) only[go_sem,hb]<;>(repeat(with_reducible refine And.intro ?_ ?_;focus first|omega|rfl|assumption|exact⟨_,rfl,rfl⟩|(simp;omega)|(simp;done)))
  ·have hi:i<x.bH.length:=by omega
   have hs:=List.sizeOf_lt_of_mem (List.getElem_mem hi);have hs':=bn.vV x.bH[i];have hz:=aC.aiL hi;have hz':=bn.agN x.bH[i];rw[X5 hi,ad3] at p3;rw[bn.qY hi] at p2;have hlo:=zf x.bH[i].fBody (bound++x.bH[i].aS) o;refine⟨JI,⟨_,rfl,rfl⟩,fun y hy=>(by cases hy),by omega,⟨by omega,hi⟩,JI,⟨_,rfl,rfl⟩,by omega,?_⟩;rw[<-List.map_append];refine bZ [true,false,true] rfl (ih x.bH[i].fBody (by omega) (by omega) (bound++x.bH[i].aS) o (1+l) j _ (by simp -implicitDefEqProofs (disch:=omega) only[go_sem];exact hkS _) (by omega) (by simp only[List.length_append];omega)) ?_;simp -implicitDefEqProofs (disch:=omega) only[go_sem,ah];exact dZ 1 (by decide) (i+1,ny x.bH[i].fBody (bound++x.bH[i].aS) o) (by simp only;omega) rfl rfl (refs _ _) rfl ⟨by simp only;omega,by simp only;omega,p3⟩
  ·have hi:i=x.bH.length:=by omega
   rw[hi,List.drop_length,wZ] at p3;rw[<-p3];exact⟨rfl,rfl⟩
theorem Lp(x:aC)(hsz:x.sz<=4194304):bg prog 189 [x.v] (.c (.d (.sl ((ny x [] []).map encS)))):=fun S=>by
 have hc:=aC.qI x
 have h0:∀S,cB prog 213 [x.v,.c (.d (.sl [])),.c (.bI [])] S (fun r S'=>r=.c (.d (.sl ((ny x [] []).map encS)))/\S'=S):=fun S=>by
  refine cB.ah9 2 (es:=[]) (bB:=1) rfl (by simp) (Gw _ x (Nat.lt_succ_self _) hsz [] [] 0 0 ([.tok 1 []]::S) rfl (by simp;omega) (by simp;omega)) ?_;rintro r fr S' ⟨rfl,h2⟩;injection h2 with h2 h3;exact⟨_,rfl,rfl,h3⟩
 refine zcx [.tmp 2] func189 ntmps189 ?_;simp -implicitDefEqProofs (disch:=omega) only[go_sem]
 (repeat(with_reducible refine And.intro ?_ ?_;focus first|omega|rfl|assumption|exact⟨_,rfl,rfl⟩|(simp;omega)|(simp;done)))
 refine bZ [true,false,true] rfl (h0 _) ?_;simp -implicitDefEqProofs (disch:=omega) only[go_sem]
theorem aC.JJ{x:aC}(h:x.sz<=4194304):x.bU.length<=4194304/\x.fName.length<=4194304/\x.fType.sz<=4194304/\x.fArgs.length<=4194304/\x.bH.length<=4194304:=by
 simp only[aC.sz,aC.aj,bD,aY,D.sz,List.length_map,ay.bY] at h;omega
theorem aC.akJ{x:aC}{i:Nat}(hi:i<x.fArgs.length)(h:x.sz<=4194304):x.fArgs[i].sz<=4194304:=by
 have hx:x.fArgs[i].sz<=aN (x.fArgs.map aC.enc):=dx (List.mem_map_of_mem (List.getElem_mem hi));simp only[aC.sz,aC.aj,bD,aY,D.sz,List.length_map,ay.bY] at h;omega
theorem aC.akK{x:aC}{i:Nat}(hi:i<x.bH.length)(h:x.sz<=4194304):x.bH[i].sz<=4194304:=by
 have hx:x.bH[i].sz<=aN (x.bH.map bn.enc):=dx (List.mem_map_of_mem (List.getElem_mem hi));simp only[aC.sz,aC.aj,bD,aY,D.sz,List.length_map,ay.bY] at h;omega
theorem bn.JJ{x:bn}(h:x.sz<=4194304):x.fK.length<=4194304/\x.aS.length<=4194304/\x.fBody.sz<=4194304:=by
 simp only[bn.sz,bn.aj,bD,aY,D.sz,List.length_map,aC.bY] at h;omega
theorem zM:∀n:Nat,∀x:aC,SizeOf.sizeOf x<n->∀y:aC,x.sz<=4194304->bg prog 208 [x.v,y.v] (.c (.d (.b (dec (x=y)))))
 |0=>fun x h=>by omega
 |n+1=>by
  have ih:=zM n;intro x hn y hsz S;have nu:=aC.jW x;have Ie:=aC.xW x;have hb0:=aC.JJ hsz;refine zcx [.tmp 4] func208 ntmps208 ?_;simp -implicitDefEqProofs (disch:=omega) only[go_sem]
  with_reducible refine aD (fun hb=> ?_) (fun hb=> ?_)<;>have h:=hb<;>(try simp only[wf_preprocess] at h)<;>simp -implicitDefEqProofs (disch:=omega) only[go_sem,hb]<;>(repeat(with_reducible refine And.intro ?_ ?_;focus first|omega|rfl|assumption|exact⟨_,rfl,rfl⟩|(simp;omega)|(simp;done)))
  ·exact bN (bM (fun e=>h (by rw[e]))).symm
  have h1:=h
  with_reducible refine aD (fun hb=> ?_) (fun hb=> ?_)<;>have h:=hb<;>(try simp only[wf_preprocess] at h)<;>simp -implicitDefEqProofs (disch:=omega) only[go_sem,hb]<;>(repeat(with_reducible refine And.intro ?_ ?_;focus first|omega|rfl|assumption|exact⟨_,rfl,rfl⟩|(simp;omega)|(simp;done)))
  ·exact bN (bM (fun e=>h (by rw[e]))).symm
  have h2:=h
  with_reducible refine aD (fun hb=> ?_) (fun hb=> ?_)<;>have h:=hb<;>(try simp only[wf_preprocess] at h)<;>simp -implicitDefEqProofs (disch:=omega) only[go_sem,hb]<;>(repeat(with_reducible refine And.intro ?_ ?_;focus first|omega|rfl|assumption|exact⟨_,rfl,rfl⟩|(simp;omega)|(simp;done)))
  ·exact bN (bM (fun e=>h (by rw[e]))).symm
  have h3:=h
  with_reducible refine aD (fun hb=> ?_) (fun hb=> ?_)<;>have h:=hb<;>(try simp only[wf_preprocess] at h)<;>simp -implicitDefEqProofs (disch:=omega) only[go_sem,hb]<;>(repeat(with_reducible refine And.intro ?_ ?_;focus first|omega|rfl|assumption|exact⟨_,rfl,rfl⟩|(simp;omega)|(simp;done)))
  ·exact bN (bM (fun e=>h (by rw[e]))).symm
  have h4:=h;refine aB (JH x.fType y.fType (by omega)) ?_;simp -implicitDefEqProofs (disch:=omega) only[go_sem]<;>(repeat(with_reducible refine And.intro ?_ ?_;focus first|omega|rfl|assumption|exact⟨_,rfl,rfl⟩|(simp;omega)|(simp;done)))
  with_reducible refine aD (fun hb=> ?_) (fun hb=> ?_)<;>have h:=hb<;>(try simp only[wf_preprocess] at h)<;>simp -implicitDefEqProofs (disch:=omega) only[go_sem,hb]<;>(repeat(with_reducible refine And.intro ?_ ?_;focus first|omega|rfl|assumption|exact⟨_,rfl,rfl⟩|(simp;omega)|(simp;done)))
  ·exact bN (bM (fun e=>h (by rw[e]))).symm
  have h5:=h
  with_reducible refine aD (fun hb=> ?_) (fun hb=> ?_)<;>have h:=hb<;>(try simp only[wf_preprocess] at h)<;>simp -implicitDefEqProofs (disch:=omega) only[go_sem,hb]<;>(repeat(with_reducible refine And.intro ?_ ?_;focus first|omega|rfl|assumption|exact⟨_,rfl,rfl⟩|(simp;omega)|(simp;done)))
  ·exact bN (bM (fun e=>h (by rw[e]))).symm
  have h6:x.fArgs.length=y.fArgs.length:=by omega
  with_reducible refine aD (fun hb=> ?_) (fun hb=> ?_)<;>have h:=hb<;>(try simp only[wf_preprocess] at h)<;>simp -implicitDefEqProofs (disch:=omega) only[go_sem,hb]<;>(repeat(with_reducible refine And.intro ?_ ?_;focus first|omega|rfl|assumption|exact⟨_,rfl,rfl⟩|(simp;omega)|(simp;done)))
  ·exact bN (bM (fun e=>h (by rw[e]))).symm
  have h7:x.bH.length=y.bH.length:=by omega
  refine bO (ι:=Nat) zmx rfl [2,3,5] (fun i=>[.c (.ptr (0,0) 0),.c (.ptr (0,1) 0),.c (.d (.i .i64 i))]) (fun _=>[.box (x.enc.map .d),.box (y.enc.map .d)]::S)
   (fun i=>i<=x.fArgs.length/\∀j,j<i->x.fArgs[j]? =y.fArgs[j]?) (fun i=>x.fArgs.length-i) 0 rfl ?_ ⟨Nat.zero_le _,fun j h=>by omega⟩ ?_
  ·simp -implicitDefEqProofs (disch:=omega) only[go_sem]
  rintro i ⟨p1,p2⟩;simp -implicitDefEqProofs (disch:=omega) only[go_sem]
  with_reducible refine aD (fun hb=> ?_) (fun hb=> ?_)<;>have h:=hb<;>(try simp only[wf_preprocess] at h)<;>simp -implicitDefEqProofs (disch:=omega) only[go_sem,hb]<;>(repeat(with_reducible refine And.intro ?_ ?_;focus first|omega|rfl|assumption|exact⟨_,rfl,rfl⟩|(simp;omega)|(simp;done)))
  ·have hi:i<x.fArgs.length:=by omega
   have hi':i<y.fArgs.length:=by omega
   (repeat(with_reducible refine And.intro ?_ ?_;focus first|omega|rfl|assumption|exact⟨_,rfl,rfl⟩|(simp;omega)|(simp;done)))
   refine aB (ih x.fArgs[i] (by have:=List.sizeOf_lt_of_mem (List.getElem_mem hi);omega) y.fArgs[i] (aC.akJ hi hsz)) ?_;simp -implicitDefEqProofs (disch:=omega) only[go_sem]<;>(repeat(with_reducible refine And.intro ?_ ?_;focus first|omega|rfl|assumption|exact⟨_,rfl,rfl⟩|(simp;omega)|(simp;done)))
   with_reducible refine aD (fun hb=> ?_) (fun hb=> ?_)<;>have h:=hb<;>(try simp only[wf_preprocess] at h)<;>simp -implicitDefEqProofs (disch:=omega) only[go_sem,hb]<;>(repeat(with_reducible refine And.intro ?_ ?_;focus first|omega|rfl|assumption|exact⟨_,rfl,rfl⟩|(simp;omega)|(simp;done)))
   ·exact bN (bM (fun e=>h (by simp only[e]))).symm
   refine cZ (i+1) (by omega) rfl rfl ⟨by omega,fun j hj=> ?_⟩;by_cases e:j=i
   ·subst e;rw[List.getElem?_eq_getElem hi,List.getElem?_eq_getElem hi',h]
   ·exact p2 j (by omega)
  have hi:i=x.fArgs.length:=by omega
  have h8:x.fArgs=y.fArgs:=List.ext_getElem? fun j=>by
   by_cases hj:j<i
   ·exact p2 j hj
   ·rw[List.getElem?_eq_none (by omega),List.getElem?_eq_none (by omega)]
  refine bO (ι:=Nat) zmx rfl [2,3,6] (fun i=>[.c (.ptr (0,0) 0),.c (.ptr (0,1) 0),.c (.d (.i .i64 i))]) (fun _=>[.box (x.enc.map .d),.box (y.enc.map .d)]::S)
   (fun i=>i<=x.bH.length/\∀j,j<i->x.bH[j]? =y.bH[j]?) (fun i=>x.bH.length-i) 0 rfl ?_ ⟨Nat.zero_le _,fun j h=>by omega⟩ ?_
  ·simp -implicitDefEqProofs (disch:=omega) only[go_sem]
  clear p1 p2 hi hb h;clear i;rintro i ⟨p1,p2⟩;simp -implicitDefEqProofs (disch:=omega) only[go_sem]
  with_reducible refine aD (fun hb=> ?_) (fun hb=> ?_)<;>have h:=hb<;>(try simp only[wf_preprocess] at h)<;>simp -implicitDefEqProofs (disch:=omega) only[go_sem,hb]<;>(repeat(with_reducible refine And.intro ?_ ?_;focus first|omega|rfl|assumption|exact⟨_,rfl,rfl⟩|(simp;omega)|(simp;done)))
  ·have hi:i<x.bH.length:=by omega
   have hi':i<y.bH.length:=by omega
   have hs:=List.sizeOf_lt_of_mem (List.getElem_mem hi);have hz:=bn.JJ (aC.akK hi hsz);have an0:=bn.vV x.bH[i]
   (repeat(with_reducible refine And.intro ?_ ?_;focus first|omega|rfl|assumption|exact⟨_,rfl,rfl⟩|(simp;omega)|(simp;done)))
   with_reducible refine aD (fun hb=> ?_) (fun hb=> ?_)<;>have h:=hb<;>(try simp only[wf_preprocess] at h)<;>simp -implicitDefEqProofs (disch:=omega) only[go_sem,hb]<;>(repeat(with_reducible refine And.intro ?_ ?_;focus first|omega|rfl|assumption|exact⟨_,rfl,rfl⟩|(simp;omega)|(simp;done)))
   ·exact bN (bM (fun e=>h (by simp only[e]))).symm
   have k1:=h
   (repeat(with_reducible refine And.intro ?_ ?_;focus first|omega|rfl|assumption|exact⟨_,rfl,rfl⟩|(simp;omega)|(simp;done)))
   refine aB (Ua x.bH[i].aS y.bH[i].aS (by omega)) ?_;simp -implicitDefEqProofs (disch:=omega) only[go_sem]<;>(repeat(with_reducible refine And.intro ?_ ?_;focus first|omega|rfl|assumption|exact⟨_,rfl,rfl⟩|(simp;omega)|(simp;done)))
   with_reducible refine aD (fun hb=> ?_) (fun hb=> ?_)<;>have h:=hb<;>(try simp only[wf_preprocess] at h)<;>simp -implicitDefEqProofs (disch:=omega) only[go_sem,hb]<;>(repeat(with_reducible refine And.intro ?_ ?_;focus first|omega|rfl|assumption|exact⟨_,rfl,rfl⟩|(simp;omega)|(simp;done)))
   ·exact bN (bM (fun e=>h (by simp only[e]))).symm
   have k2:=h
   (repeat(with_reducible refine And.intro ?_ ?_;focus first|omega|rfl|assumption|exact⟨_,rfl,rfl⟩|(simp;omega)|(simp;done)))
   refine aB (ih x.bH[i].fBody (by omega) y.bH[i].fBody (by omega)) ?_;simp -implicitDefEqProofs (disch:=omega) only[go_sem]<;>(repeat(with_reducible refine And.intro ?_ ?_;focus first|omega|rfl|assumption|exact⟨_,rfl,rfl⟩|(simp;omega)|(simp;done)))
   with_reducible refine aD (fun hb=> ?_) (fun hb=> ?_)<;>have h:=hb<;>(try simp only[wf_preprocess] at h)<;>simp -implicitDefEqProofs (disch:=omega) only[go_sem,hb]<;>(repeat(with_reducible refine And.intro ?_ ?_;focus first|omega|rfl|assumption|exact⟨_,rfl,rfl⟩|(simp;omega)|(simp;done)))
   ·exact bN (bM (fun e=>h (by simp only[e]))).symm
   have k3:=h;refine cZ (i+1) (by omega) rfl rfl ⟨by omega,fun j hj=> ?_⟩;by_cases e:j=i
   ·subst e;rw[List.getElem?_eq_getElem hi,List.getElem?_eq_getElem hi',bn.ext k1 k2 k3]
   ·exact p2 j (by omega)
  ·have hi:i=x.bH.length:=by omega
   have h9:x.bH=y.bH:=List.ext_getElem? fun j=>by
    by_cases hj:j<i
    ·exact p2 j hj
    ·rw[List.getElem?_eq_none (by omega),List.getElem?_eq_none (by omega)]
   exact bN (dH (aC.ext h1 h2 h3 h4 h5 h8 h9)).symm
theorem JK(x y:aC)(h:x.sz<=4194304):bg prog 208 [x.v,y.v] (.c (.d (.b (dec (x=y))))):=zM _ x (Nat.lt_succ_self _) y h
theorem DJ:∀n:Nat,∀t:ay,SizeOf.sizeOf t<n->t.sz<=4194304->∀v:List UInt8,bg prog 188 [t.v,.c (.d (.s v))] (.c (.d (.i .i64 (oq v t))))
 |0=>fun t h=>by omega
 |n+1=>by
  have ih:=DJ n;intro t hn hsz v S;have nu:=ay.jW t;have hts:=Rn hsz;have hcl:=aat v t;have hcn:=qI t;have he:=aas v t;refine zcx [.tmp 4] func188 ntmps188 ?_;simp -implicitDefEqProofs (disch:=omega) only[go_sem]
  repeat' (first|(with_reducible refine aD (fun hb=> ?_) (fun hb=> ?_)<;>have h:=hb<;>(try simp only[wf_preprocess] at h)<;>simp -implicitDefEqProofs (disch:=omega) only[go_sem,hb]<;>(repeat(with_reducible refine And.intro ?_ ?_;focus first|omega|rfl|assumption|exact⟨_,rfl,rfl⟩|(simp;omega)|(simp;done)))))
  all_goals first
   |(have hc:oq v t=1+uL v t.fArgs:=by rw[he,if_pos (by simp only[KU,decide_eq_true_eq];exact⟨by assumption,by assumption⟩)])
   |(have hc:oq v t=0+uL v t.fArgs:=by rw[he,if_neg (by simp only[KU,decide_eq_true_eq];exact fun x=>by have:=x.1;have:=x.2;contradiction)])
  all_goals
   refine bO (ι:=Nat×Nat) zmx rfl [1,2,5,6] (fun y=>[.c (.d (.s v)),.c (.ptr (0,0) 0),.c (.d (.i .i64 y.2)),.c (.d (.i .i64 y.1))]) (fun _=>[.box [.d (.i .i64 t.aV),.d (.s t.fName),.d (.sl (t.fArgs.map ay.enc))]]::S)
    (fun y=>y.1<=t.fArgs.length/\oq v t=y.2+uL v (t.fArgs.drop y.1)) (fun y=>t.fArgs.length-y.1) (0,_) rfl rfl ⟨Nat.zero_le _,hc⟩ ?_
   rintro⟨i,c⟩ ⟨p1,p2⟩;simp only at p1 p2;simp -implicitDefEqProofs (disch:=omega) only[go_sem]
   with_reducible refine aD (fun hb=> ?_) (fun hb=> ?_)<;>have h:=hb<;>(try simp only[wf_preprocess] at h)<;>simp -implicitDefEqProofs (disch:=omega) only[go_sem,hb]<;>(repeat(with_reducible refine And.intro ?_ ?_;focus first|omega|rfl|assumption|exact⟨_,rfl,rfl⟩|(simp;omega)|(simp;done)))
   ·have hi:i<t.fArgs.length:=by omega
    rw[Rm hi] at p2
    (repeat(with_reducible refine And.intro ?_ ?_;focus first|omega|rfl|assumption|exact⟨_,rfl,rfl⟩|(simp;omega)|(simp;done)))
    refine aB (ih t.fArgs[i] (by have:=List.sizeOf_lt_of_mem (List.getElem_mem hi);omega) (MZ hi hsz).1 v) ?_;simp -implicitDefEqProofs (disch:=omega) only[go_sem]<;>(repeat(with_reducible refine And.intro ?_ ?_;focus first|omega|rfl|assumption|exact⟨_,rfl,rfl⟩|(simp;omega)|(simp;done)));rw[show(c:Int)+(oq v t.fArgs[i]:Int)=((c+oq v t.fArgs[i]:Nat):Int) by omega];exact cZ (i+1,c+oq v t.fArgs[i]) (by simp only;omega) rfl rfl ⟨by simp only;omega,by simp only;omega⟩
   ·have hi:i=t.fArgs.length:=by omega
    rw[hi,List.drop_length] at p2;have h0:uL v []=0:=rfl;exact int_eq (by omega)
theorem Ph(v:List UInt8)(t:ay)(hsz:t.sz<=4194304):bg prog 163 [.c (.d (.s v)),t.v] (.c (.d (.b (occurs v t)))):=fun S=>by
 refine zcx [.tmp 4] func163 ntmps163 ?_;simp -implicitDefEqProofs (disch:=omega) only[go_sem];refine aB (DJ _ t (Nat.lt_succ_self _) hsz v) ?_;simp -implicitDefEqProofs (disch:=omega) only[go_sem]<;>(repeat(with_reducible refine And.intro ?_ ?_;focus first|omega|rfl|assumption|exact⟨_,rfl,rfl⟩|(simp;omega)|(simp;done)));exact bN (by unfold occurs;rw[Bool.eq_iff_iff];simp only[decide_eq_true_eq];omega)
def zeroE:aC:=.mk 0 [] [] 0 (.mk 0 [] []) [] []
def PI:List (List UInt8):=[[115,101,108,102]]
noncomputable def Lr(vars:List (List UInt8))(e:aC):Bool:=vY e&&among (ny e [] []) vars
noncomputable def nH(vars:List (List UInt8))(e:aC):Bool:=iT vars&&Lr vars e
noncomputable def uN(vars:List (List UInt8))(b:aU):Bool:=(validName b.bU&&qZ b.fType)&&(!qK b.fType&&among (jX [] b.fType) vars)
noncomputable def rT(vars:List (List UInt8))(bs:List aU):Bool:=dec (bs.length<=4)&&bs.all (uN vars)
noncomputable def j3(g:aI):Bool:=
 validName g.fName&&(dec (g.bP.length<=4)&&(mU PI g.bP&&(iK PI g.cu&&
  (if g.gT=true then dec (g.aS.length=g.bP.length+1)&&nH g.aS g.fBody else dec (g.aS.length=0)&&dec (g.fBody=zeroE)))))
theorem Ig{xs:List ay}{t:ay}(h:t∈xs):t.sz<=aN (xs.map ay.enc):=dx (List.mem_map_of_mem h)
theorem yt{xs:List aU}{t:aU}(h:t∈xs):t.sz<=aN (xs.map aU.enc):=dx (List.mem_map_of_mem h)
theorem aI.sum(x:aI):x.fName.length+(x.bP.length+aN (x.bP.map ay.enc))+x.cu.sz+(x.aS.length+aN (x.aS.map encS))+x.fBody.sz<=x.sz:=by
 simp only[aI.sz,aI.aj,bD,aY,D.sz,List.length_map,ay.bY,aC.bY];omega
theorem aU.sum(x:aU):x.bU.length+x.fType.sz<=x.sz:=by
 simp only[aU.sz,aU.aj,bD,aY,D.sz,List.length_map,ay.bY];omega
theorem ad4(e:aC)(h:e.sz<=4194304):(ny e [] []).length<=1073741824:=by
 have h1:=zf e [] [];have h2:=aC.qI e;simp at h1;omega
theorem IZ(vars:List (List UInt8))(t:ay):iK vars t=(qZ t&&among (jX [] t) vars):=rfl
theorem ED(vars:List (List UInt8))(e:aC)(hv:vars.length<=1073741824)(hsz:e.sz<=4194304):bg prog 165 [e.v,.c (.d (.sl (vars.map encS)))] (.c (.d (.b (Lr vars e)))):=fun S=>by
 have hlen:=ad4 e hsz;refine zcx [.tmp 4] func165 ntmps165 ?_;simp -implicitDefEqProofs (disch:=omega) only[go_sem];refine aB (Lp e hsz) ?_;simp -implicitDefEqProofs (disch:=omega) only[go_sem]<;>(repeat(with_reducible refine And.intro ?_ ?_;focus first|omega|rfl|assumption|exact⟨_,rfl,rfl⟩|(simp;omega)|(simp;done)));unfold Lr;generalize ny e [] []=xs at hlen ⊢
 refine bO (ι:=Nat) zmx rfl [1,2,5,6] (fun i=>[.c (.d (.sl (vars.map encS))),.c (.ptr (0,0) 0),.c (.d (.sl (xs.map encS))),.c (.d (.i .i64 i))]) (fun _=>[.box (e.enc.map .d)]::S)
  (fun i=>i<=xs.length/\among (xs.drop i) vars=among xs vars) (fun i=>xs.length-i) 0 rfl ?_ ⟨Nat.zero_le _,rfl⟩ ?_
 ·simp -implicitDefEqProofs (disch:=omega) only[go_sem]
 rintro i ⟨p1,p2⟩;simp -implicitDefEqProofs (disch:=omega) only[go_sem,encS]
 with_reducible refine aD (fun hb=> ?_) (fun hb=> ?_)<;>have h:=hb<;>(try simp only[wf_preprocess] at h)<;>simp -implicitDefEqProofs (disch:=omega) only[go_sem,hb,encS]<;>(repeat(with_reducible refine And.intro ?_ ?_;focus first|omega|rfl|assumption|exact⟨_,rfl,rfl⟩|(simp;omega)|(simp;done)))
 ·have hi:i<xs.length:=by omega
  rw[List.drop_eq_getElem_cons hi] at p2;have p3:among xs vars=(dec (xs[i]∈vars)&&among (xs.drop (i+1)) vars):=p2.symm
  (repeat(with_reducible refine And.intro ?_ ?_;focus first|omega|rfl|assumption|exact⟨_,rfl,rfl⟩|(simp;omega)|(simp;done)))
  refine aB (ou vars xs[i] hv) ?_;simp -implicitDefEqProofs (disch:=omega) only[go_sem]<;>(repeat(with_reducible refine And.intro ?_ ?_;focus first|omega|rfl|assumption|exact⟨_,rfl,rfl⟩|(simp;omega)|(simp;done)))
  with_reducible refine aD (fun hb=> ?_) (fun hb=> ?_)<;>have h:=hb<;>(try simp only[wf_preprocess] at h)<;>simp -implicitDefEqProofs (disch:=omega) only[go_sem,hb]<;>(repeat(with_reducible refine And.intro ?_ ?_;focus first|omega|rfl|assumption|exact⟨_,rfl,rfl⟩|(simp;omega)|(simp;done)))
  ·exact bN (by rw[p3,bM h];simp)
  ·exact cZ (i+1) (by omega) rfl rfl ⟨by omega,by rw[p3,dH h];rfl⟩
 ·rw[List.drop_of_length_le (by omega)] at p2;have p3:among xs vars=true:=p2.symm
  (repeat(with_reducible refine And.intro ?_ ?_;focus first|omega|rfl|assumption|exact⟨_,rfl,rfl⟩|(simp;omega)|(simp;done)))
  refine aB (JG e hsz) ?_;simp -implicitDefEqProofs (disch:=omega) only[go_sem]<;>(repeat(with_reducible refine And.intro ?_ ?_;focus first|omega|rfl|assumption|exact⟨_,rfl,rfl⟩|(simp;omega)|(simp;done)));exact bN (by rw[p3];simp)
theorem I4(bs:List aU)(vars:List (List UInt8))(hl:bs.length<=1073741824)(hz:∀b∈bs,b.sz<=4194304)(hv:vars.length<=1073741824):bg prog 162 [.c (.d (.sl (bs.map aU.enc))),.c (.d (.sl (vars.map encS)))] (.c (.d (.b (rT vars bs)))):=fun S=>by
 refine zcx [.tmp 4] func162 ntmps162 ?_;simp -implicitDefEqProofs (disch:=omega) only[go_sem]
 refine bO (ι:=Nat) zmx rfl [0,1,5] (fun i=>[.c (.d (.sl (bs.map aU.enc))),.c (.d (.sl (vars.map encS))),.c (.d (.i .i64 i))]) (fun _=>[]::S)
  (fun i=>i<=bs.length/\(bs.drop i).all (uN vars)=bs.all (uN vars)) (fun i=>bs.length-i) 0 rfl rfl ⟨Nat.zero_le _,rfl⟩ ?_
 rintro i ⟨p1,p2⟩;simp -implicitDefEqProofs (disch:=omega) only[go_sem]
 with_reducible refine aD (fun hb=> ?_) (fun hb=> ?_)<;>have h:=hb<;>(try simp only[wf_preprocess] at h)<;>simp -implicitDefEqProofs (disch:=omega) only[go_sem,hb]<;>(repeat(with_reducible refine And.intro ?_ ?_;focus first|omega|rfl|assumption|exact⟨_,rfl,rfl⟩|(simp;omega)|(simp;done)))
 ·have hi:i<bs.length:=by omega
  have hb:=hz _ (List.getElem_mem hi);have hs:=aU.sum bs[i];rw[List.drop_eq_getElem_cons hi,List.all_cons] at p2;have no:uN vars bs[i]=false->V.c (.d (.b false))=V.c (.d (.b (rT vars bs))):=fun h=>bN (by unfold rT;rw[<-p2,h];simp)
  (repeat(with_reducible refine And.intro ?_ ?_;focus first|omega|rfl|assumption|exact⟨_,rfl,rfl⟩|(simp;omega)|(simp;done)))
  refine aB (Iq bs[i] (by omega) (by omega)) ?_;simp -implicitDefEqProofs (disch:=omega) only[go_sem]<;>(repeat(with_reducible refine And.intro ?_ ?_;focus first|omega|rfl|assumption|exact⟨_,rfl,rfl⟩|(simp;omega)|(simp;done)))
  with_reducible refine aD (fun hb=> ?_) (fun hb=> ?_)<;>have h:=hb<;>(try simp only[wf_preprocess] at h)<;>simp -implicitDefEqProofs (disch:=omega) only[go_sem,hb]<;>(repeat(with_reducible refine And.intro ?_ ?_;focus first|omega|rfl|assumption|exact⟨_,rfl,rfl⟩|(simp;omega)|(simp;done)))
  ·exact no (by unfold uN;rw[h];rfl)
  have h1:=h
  (repeat(with_reducible refine And.intro ?_ ?_;focus first|omega|rfl|assumption|exact⟨_,rfl,rfl⟩|(simp;omega)|(simp;done)))
  refine aB (rQ bs[i].fType vars (by omega) hv) ?_;simp -implicitDefEqProofs (disch:=omega) only[go_sem]<;>(repeat(with_reducible refine And.intro ?_ ?_;focus first|omega|rfl|assumption|exact⟨_,rfl,rfl⟩|(simp;omega)|(simp;done)))
  with_reducible refine aD (fun hb=> ?_) (fun hb=> ?_)<;>have h:=hb<;>(try simp only[wf_preprocess] at h)<;>simp -implicitDefEqProofs (disch:=omega) only[go_sem,hb]<;>(repeat(with_reducible refine And.intro ?_ ?_;focus first|omega|rfl|assumption|exact⟨_,rfl,rfl⟩|(simp;omega)|(simp;done)))
  ·exact no (by unfold uN;rw[IZ] at h;rw[Bool.and_eq_true] at h1;rw[h1.2,Bool.true_and] at h;rw[h];simp)
  have h2:=h
  (repeat(with_reducible refine And.intro ?_ ?_;focus first|omega|rfl|assumption|exact⟨_,rfl,rfl⟩|(simp;omega)|(simp;done)))
  refine aB (Dw bs[i].fType (by omega)) ?_;simp -implicitDefEqProofs (disch:=omega) only[go_sem]<;>(repeat(with_reducible refine And.intro ?_ ?_;focus first|omega|rfl|assumption|exact⟨_,rfl,rfl⟩|(simp;omega)|(simp;done)))
  with_reducible refine aD (fun hb=> ?_) (fun hb=> ?_)<;>have h:=hb<;>(try simp only[wf_preprocess] at h)<;>simp -implicitDefEqProofs (disch:=omega) only[go_sem,hb]<;>(repeat(with_reducible refine And.intro ?_ ?_;focus first|omega|rfl|assumption|exact⟨_,rfl,rfl⟩|(simp;omega)|(simp;done)))
  ·exact no (by unfold uN;rw[h];simp)
  have h3:=h;rw[IZ,Bool.and_eq_true] at h2;exact cZ (i+1) (by omega) rfl rfl ⟨by omega,by rw[<-p2];unfold uN;rw[h1,h2.2,h3];rfl⟩
 ·rw[List.drop_of_length_le (by omega)] at p2;exact bN (by unfold rT;rw[<-p2,rO];simp only[List.all_nil,Bool.and_true];exact kX ⟨fun h=>by omega,fun h=>by omega⟩)
theorem X7(e:aC)(hsz:e.sz<=4194304):bg prog 184 [e.v] (.c (.d (.b (dec (e=zeroE))))):=fun S=>by
 refine zcx [.tmp 2] func184 ntmps184 ?_;simp -implicitDefEqProofs (disch:=omega) only[go_sem];refine aB (JK e zeroE hsz) ?_;simp -implicitDefEqProofs (disch:=omega) only[go_sem]
theorem aaO(g:aI)(hsz:g.sz<=4194304):bg prog 158 [g.v] (.c (.d (.b (j3 g)))):=fun S=>by
 have hs:=aI.sum g
 have hT:∀t∈g.bP,t.sz<=4194304:=fun t ht=>by have:=Ig ht;omega
 have hV:∀s∈g.aS,s.length<=4194304:=fun s h=>by have:=y8 h;omega
 refine zcx [.tmp 2] func158 ntmps158 ?_;simp -implicitDefEqProofs (disch:=omega) only[go_sem];refine aB (gU g.fName (by omega)) ?_;simp -implicitDefEqProofs (disch:=omega) only[go_sem]<;>(repeat(with_reducible refine And.intro ?_ ?_;focus first|omega|rfl|assumption|exact⟨_,rfl,rfl⟩|(simp;omega)|(simp;done)))
 with_reducible refine aD (fun hb=> ?_) (fun hb=> ?_)<;>have h:=hb<;>(try simp only[wf_preprocess] at h)<;>simp -implicitDefEqProofs (disch:=omega) only[go_sem,hb]<;>(repeat(with_reducible refine And.intro ?_ ?_;focus first|omega|rfl|assumption|exact⟨_,rfl,rfl⟩|(simp;omega)|(simp;done)))
 ·exact bN (by unfold j3;rw[h];rfl)
 have h1:=h
 with_reducible refine aD (fun hb=> ?_) (fun hb=> ?_)<;>have h:=hb<;>(try simp only[wf_preprocess] at h)<;>simp -implicitDefEqProofs (disch:=omega) only[go_sem,hb]<;>(repeat(with_reducible refine And.intro ?_ ?_;focus first|omega|rfl|assumption|exact⟨_,rfl,rfl⟩|(simp;omega)|(simp;done)))
 ·exact bN (by unfold j3;rw[bM (show ¬g.bP.length<=4 by omega)];simp)
 have h2:=h
 (repeat(with_reducible refine And.intro ?_ ?_;focus first|omega|rfl|assumption|exact⟨_,rfl,rfl⟩|(simp;omega)|(simp;done)))
 refine aB (N9 g.bP PI (by omega) hT (by decide)) ?_;simp -implicitDefEqProofs (disch:=omega) only[go_sem]
 with_reducible refine aD (fun hb=> ?_) (fun hb=> ?_)<;>have h:=hb<;>(try simp only[wf_preprocess] at h)<;>simp -implicitDefEqProofs (disch:=omega) only[go_sem,hb]<;>(repeat(with_reducible refine And.intro ?_ ?_;focus first|omega|rfl|assumption|exact⟨_,rfl,rfl⟩|(simp;omega)|(simp;done)))
 ·exact bN (by unfold j3;rw[h];simp)
 have h3:=h
 (repeat(with_reducible refine And.intro ?_ ?_;focus first|omega|rfl|assumption|exact⟨_,rfl,rfl⟩|(simp;omega)|(simp;done)))
 refine aB (rQ g.cu PI (by omega) (by decide)) ?_;simp -implicitDefEqProofs (disch:=omega) only[go_sem]
 with_reducible refine aD (fun hb=> ?_) (fun hb=> ?_)<;>have h:=hb<;>(try simp only[wf_preprocess] at h)<;>simp -implicitDefEqProofs (disch:=omega) only[go_sem,hb]<;>(repeat(with_reducible refine And.intro ?_ ?_;focus first|omega|rfl|assumption|exact⟨_,rfl,rfl⟩|(simp;omega)|(simp;done)))
 ·exact bN (by unfold j3;rw[h];simp)
 have h4:=h
 with_reducible refine aD (fun hb=> ?_) (fun hb=> ?_)<;>have h:=hb<;>(try simp only[wf_preprocess] at h)<;>simp -implicitDefEqProofs (disch:=omega) only[go_sem,hb]<;>(repeat(with_reducible refine And.intro ?_ ?_;focus first|omega|rfl|assumption|exact⟨_,rfl,rfl⟩|(simp;omega)|(simp;done)))
 ·have h5:¬g.gT=true:=by rw[h];simp
  with_reducible refine aD (fun hb=> ?_) (fun hb=> ?_)<;>have h:=hb<;>(try simp only[wf_preprocess] at h)<;>simp -implicitDefEqProofs (disch:=omega) only[go_sem,hb]<;>(repeat(with_reducible refine And.intro ?_ ?_;focus first|omega|rfl|assumption|exact⟨_,rfl,rfl⟩|(simp;omega)|(simp;done)))
  ·refine aB (X7 g.fBody (by omega)) ?_;simp -implicitDefEqProofs (disch:=omega) only[go_sem]<;>(repeat(with_reducible refine And.intro ?_ ?_;focus first|omega|rfl|assumption|exact⟨_,rfl,rfl⟩|(simp;omega)|(simp;done)));exact bN (by unfold j3;rw[h1,h3,h4,if_neg h5,dH (show g.bP.length<=4 by omega),dH (show g.aS.length=0 by omega)];rfl)
  ·exact bN (by unfold j3;rw[if_neg h5,bM (show ¬g.aS.length=0 by omega)];simp)
 ·have h5:=h;refine aB (kG g.aS 5 (by omega) hV) ?_;simp -implicitDefEqProofs (disch:=omega) only[go_sem]<;>(repeat(with_reducible refine And.intro ?_ ?_;focus first|omega|rfl|assumption|exact⟨_,rfl,rfl⟩|(simp;omega)|(simp;done)))
  with_reducible refine aD (fun hb=> ?_) (fun hb=> ?_)<;>have h:=hb<;>(try simp only[wf_preprocess] at h)<;>simp -implicitDefEqProofs (disch:=omega) only[go_sem,hb]<;>(repeat(with_reducible refine And.intro ?_ ?_;focus first|omega|rfl|assumption|exact⟨_,rfl,rfl⟩|(simp;omega)|(simp;done)))
  ·have h6:=h;rw[Bool.and_eq_true] at h6
   with_reducible refine aD (fun hb=> ?_) (fun hb=> ?_)<;>have h:=hb<;>(try simp only[wf_preprocess] at h)<;>simp -implicitDefEqProofs (disch:=omega) only[go_sem,hb]<;>(repeat(with_reducible refine And.intro ?_ ?_;focus first|omega|rfl|assumption|exact⟨_,rfl,rfl⟩|(simp;omega)|(simp;done)))
   ·refine aB (ED g.aS g.fBody (by omega) (by omega)) ?_;simp -implicitDefEqProofs (disch:=omega) only[go_sem]<;>(repeat(with_reducible refine And.intro ?_ ?_;focus first|omega|rfl|assumption|exact⟨_,rfl,rfl⟩|(simp;omega)|(simp;done)));exact bN (by unfold j3 nH;rw[h1,h3,h4,if_pos h5,h6.2,dH (show g.bP.length<=4 by omega),dH (show g.aS.length=g.bP.length+1 by omega)];rfl)
   ·exact bN (by unfold j3;rw[if_pos h5,bM (show ¬g.aS.length=g.bP.length+1 by omega)];simp)
  ·refine bN ?_;by_cases h7:g.aS.length=g.bP.length+1
   ·rw[dH (by omega),Bool.true_and] at h
    unfold j3 nH;rw[if_pos h5,h];simp
   ·unfold j3;rw[if_pos h5,bM h7];simp
def sH(f:bJ):List (List UInt8):=f.bP.map dG.fName
def RO(f:bJ):List ay:=f.bP.map dG.fType
noncomputable def mD(f:bJ):Bool:=
 validName f.fName&&(dec (f.aS.length<=3)&&(iT f.aS&&(rT f.aS f.dS&&(dec (f.bP.length<=5)&&(mU f.aS (RO f)&&(iK f.aS f.cu&&nH (sH f) f.fBody))))))
theorem bJ.sum(x:bJ):x.fName.length+(x.aS.length+aN (x.aS.map encS))+(x.dS.length+aN (x.dS.map aU.enc))+(x.bP.length+aN (x.bP.map dG.enc))+x.cu.sz+x.fBody.sz<=x.sz:=by
 simp only[bJ.sz,bJ.aj,bD,aY,D.sz,List.length_map,ay.bY,aC.bY];omega
theorem dG.sum(x:dG):x.fName.length+x.fType.sz<=x.sz:=by
 simp only[dG.sz,dG.aj,bD,aY,D.sz,List.length_map,ay.bY];omega
theorem Vi{xs:List dG}{t:dG}(h:t∈xs):t.sz<=aN (xs.map dG.enc):=dx (List.mem_map_of_mem h)
theorem yu(f:bJ)(hsz:f.sz<=4194304):bg prog 126 [f.v] (.c (.d (.b (mD f)))):=fun S=>by
 have hs:=bJ.sum f
 have hV:∀s∈f.aS,s.length<=4194304:=fun s h=>by have:=y8 h;omega
 have hW:∀b∈f.dS,b.sz<=4194304:=fun b h=>by have:=yt h;omega
 have hP:∀p∈f.bP,p.sz<=4194304:=fun m h=>by have:=Vi h;omega
 have hpn:∀s∈sH f,s.length<=4194304:=fun t h=>by
  obtain⟨p,hp,e⟩:=List.mem_map.1 h;have:=hP p hp;have:=dG.sum p;rw[<-e];omega
 have hnl:(sH f).length=f.bP.length:=by simp[sH]
 have bad:∀i,∀hi:i<f.bP.length,iK f.aS f.bP[i].fType=false->V.c (.d (.b false))=V.c (.d (.b (mD f))):=fun i hi h=>bN (by
  have:mU f.aS (RO f)=false:=Bool.eq_false_iff.2 fun hx=>by
   have:=List.all_eq_true.1 hx f.bP[i].fType (List.mem_map_of_mem (List.getElem_mem hi));rw[h] at this;cases this
  unfold mD
  rw[this];simp)
 refine zcx [.tmp 2] func126 ntmps126 ?_;simp -implicitDefEqProofs (disch:=omega) only[go_sem]
 (repeat(with_reducible refine And.intro ?_ ?_;focus first|omega|rfl|assumption|exact⟨_,rfl,rfl⟩|(simp;omega)|(simp;done)))
 refine iZ 3 1 [] rfl (by simp) ?_
 refine bO (ι:=Nat×List (List UInt8)) zmx rfl [1,3,4] (fun y=>[.c (.ptr (0,0) 0),.c (.bS (0,1) (y.2.map encS)),.c (.d (.i .i64 y.1))]) (fun y=>[.box (f.enc.map .d),.tok 1 (y.2.map encS)]::S)
  (fun y=>y.1<=f.bP.length/\y.2=(sH f).take y.1/\∀j,∀hj:j<f.bP.length,j<y.1->iK f.aS f.bP[j].fType=true) (fun y=>f.bP.length-y.1) (0,[]) rfl ?_ ⟨Nat.zero_le _,rfl,fun j _ h=>by simp only at h;omega⟩ ?_
 ·simp -implicitDefEqProofs (disch:=omega) only[go_sem]
 rintro⟨i,names⟩ ⟨p1,p2,p3⟩;simp only at p1 p2 p3
 have pl:names.length<=f.bP.length:=by rw[p2];simp[sH];omega
 simp -implicitDefEqProofs (disch:=omega) only[go_sem]
 with_reducible refine aD (fun hb=> ?_) (fun hb=> ?_)<;>have h:=hb<;>(try simp only[wf_preprocess] at h)<;>simp -implicitDefEqProofs (disch:=omega) only[go_sem,hb]<;>(repeat(with_reducible refine And.intro ?_ ?_;focus first|omega|rfl|assumption|exact⟨_,rfl,rfl⟩|(simp;omega)|(simp;done)))
 ·have hi:i<f.bP.length:=by omega
  have hp:=hP _ (List.getElem_mem hi);have hps:=dG.sum f.bP[i]
  (repeat(with_reducible refine And.intro ?_ ?_;focus first|omega|rfl|assumption|exact⟨_,rfl,rfl⟩|(simp;omega)|(simp;done)))
  refine aB (rQ f.bP[i].fType f.aS (by omega) (by omega)) ?_;simp -implicitDefEqProofs (disch:=omega) only[go_sem]<;>(repeat(with_reducible refine And.intro ?_ ?_;focus first|omega|rfl|assumption|exact⟨_,rfl,rfl⟩|(simp;omega)|(simp;done)))
  with_reducible refine aD (fun hb=> ?_) (fun hb=> ?_)<;>have h:=hb<;>(try simp only[wf_preprocess] at h)<;>simp -implicitDefEqProofs (disch:=omega) only[go_sem,hb]<;>(repeat(with_reducible refine And.intro ?_ ?_;focus first|omega|rfl|assumption|exact⟨_,rfl,rfl⟩|(simp;omega)|(simp;done)))
  ·exact bad i hi h
  have k3:=h
  (repeat(with_reducible refine And.intro ?_ ?_;focus first|omega|rfl|assumption|exact⟨_,rfl,rfl⟩|(simp;omega)|(simp;done)))
  rw[show List.map encS names++[[D.s f.bP[i].fName]]=List.map encS (names++[f.bP[i].fName]) by simp[encS]]
  exact cZ (i+1,names++[f.bP[i].fName]) (by simp only;omega) rfl rfl ⟨by simp only;omega,by simp only;rw[p2,jB (by simpa [sH] using hi)];simp[sH],fun j hj hji=>by
   simp only at hji;by_cases e:j=i
   ·subst e;exact k3
   ·exact p3 j hj (by omega)⟩
 have hi:i=f.bP.length:=by omega
 have hn:names=sH f:=by rw[p2,List.take_of_length_le (by simp[sH];omega)]
 have hall:mU f.aS (RO f)=true:=List.all_eq_true.2 fun c hc=>by
  obtain⟨p,hp,e⟩:=List.mem_map.1 hc;obtain⟨j,hj,e'⟩:=List.getElem_of_mem hp;rw[<-e,<-e'];exact p3 j hj (by omega)
 clear p2 p3 bad;subst hn
 repeat' (first
  |with_reducible refine aD (fun hb=> ?_) (fun hb=> ?_)<;>have h:=hb<;>(try simp only[wf_preprocess] at h)<;>simp -implicitDefEqProofs (disch:=omega) only[go_sem,hb]<;>(repeat(with_reducible refine And.intro ?_ ?_;focus first|omega|rfl|assumption|exact⟨_,rfl,rfl⟩|(simp;omega)|(simp;done)))
  |((with_reducible show iL _ _ 77 _ _ _ _);refine aB (gU f.fName (by omega)) ?_;simp -implicitDefEqProofs (disch:=omega) only[go_sem])
  |((with_reducible show iL _ _ 78 _ _ _ _);refine aB (kG f.aS 3 (by omega) hV) ?_;simp -implicitDefEqProofs (disch:=omega) only[go_sem])
  |((with_reducible show iL _ _ 162 _ _ _ _);refine aB (I4 f.dS f.aS (by omega) hW (by omega)) ?_;simp -implicitDefEqProofs (disch:=omega) only[go_sem])
  |((with_reducible show iL _ _ 78 _ _ _ _);refine aB (kG (sH f) 5 (by omega) hpn) ?_;simp -implicitDefEqProofs (disch:=omega) only[go_sem])
  |((with_reducible show iL _ _ 160 _ _ _ _);refine aB (rQ f.cu f.aS (by omega) (by omega)) ?_;simp -implicitDefEqProofs (disch:=omega) only[go_sem])
  |((with_reducible show iL _ _ 165 _ _ _ _);refine aB (ED (sH f) f.fBody (by omega) (by omega)) ?_;simp -implicitDefEqProofs (disch:=omega) only[go_sem])
  |(refine bN ?_;unfold mD nH;grind [gP,kF,dH,bM]))
def RP(n:Nat)(s:St):St:=match s.st with
 |(.seed _::own)::Ω=>⟨s.tm,(.seed n::own)::Ω⟩
 |_=>s
theorem Ul{n m:Nat}{tm:List (Nat×V)}{own:List Obj}{Ω:Store}:RP n ⟨tm,(.seed m::own)::Ω⟩=⟨tm,(.seed n::own)::Ω⟩:=rfl
def akL(j p n:Nat)(s:St):St:=RP n (PD j p s)
attribute [go_sem] akL Ul
def Gx:List UInt8:=[102,110]
def w9(b:aU):au:=eD [bR b.bU,dR b.fType]
def vD(b:dG):au:=eD [bR b.fName,dR b.fType]
def Oq(f:bJ):au:=eD [bR Gx,bR f.fName,eD (dn f.aS),eD (f.dS.map w9),eD (f.bP.map vD),dR f.cu,fQ f.fBody]
noncomputable def RQ(f:bJ):au:=uw (mD f) (Oq f)
theorem agO{f:bJ}(h:f.sz<=1048576):(RQ f).sz<=1048576:=Nat.le_trans (Ib _ _) (by decide)
theorem aiM(b:aU):(w9 b).sz<=14+16*b.sz:=by
 have:=y9 b.fType;have:=aU.sum b;rw[w9,jg];simp[dK,jf];omega
theorem ad5(b:dG):(vD b).sz<=14+16*b.sz:=by
 have:=y9 b.fType;have:=dG.sum b;rw[vD,jg];simp[dK,jf];omega
theorem Na:∀l:List aU,dK (l.map w9)<=14*l.length+16*aN (l.map aU.enc)
 |[]=>by simp[dK]
 |c::l=>by
  have h1:=aiM c;have h2:=Na l;rw[List.map_cons,dK,List.map_cons,aN,List.length_cons];simp only[aU.sz] at h1;omega
theorem Ot:∀l:List dG,dK (l.map vD)<=14*l.length+16*aN (l.map dG.enc)
 |[]=>by simp[dK]
 |c::l=>by
  have h1:=ad5 c;have h2:=Ot l;rw[List.map_cons,dK,List.map_cons,aN,List.length_cons];simp only[dG.sz] at h1;omega
theorem aiN{f:bJ}(hok:jd f.fBody=true):(Oq f).sz<=60+32*f.sz:=by
 have h1:=Na f.dS;have h2:=Ot f.bP;have h3:=y9 f.cu;have h4:=Gu f.fBody hok;have h5:=bJ.sum f;rw[eB] at h5;rw[Oq,jg];simp[dK,jf,jg,kZ,pJ,Gx];omega
theorem zN{vars:List (List UInt8)}{bs:List aU}(h:rT vars bs=true):∀b∈bs,formed b.fType=true:=fun b hb=>by
 unfold rT at h;rw[Bool.and_eq_true] at h;have h2:=List.all_eq_true.1 h.2 b hb;unfold uN at h2;simp only[Bool.and_eq_true] at h2;exact wT h2.1.2
theorem tK{vars:List (List UInt8)}{t:ay}(h:iK vars t=true):formed t=true:=by
 unfold iK at h;rw[Bool.and_eq_true] at h;exact wT h.1
theorem Cb{vars:List (List UInt8)}{e:aC}(h:nH vars e=true):jd e=true:=by
 unfold nH Lr at h;simp only[Bool.and_eq_true] at h;exact RL h.2.1
theorem Fp{f:bJ}(h:mD f=true):(∀b∈f.dS,formed b.fType=true)/\(∀q∈f.bP,formed q.fType=true)/\formed f.cu=true/\jd f.fBody=true:=by
 unfold mD at h;simp only[Bool.and_eq_true] at h;obtain⟨_,_,_,h1,_,h2,h3,h4⟩:=h;exact⟨zN h1,fun q hq=>CP.1 (vL h2) _ (List.mem_map_of_mem hq),tK h3,Cb h4⟩
theorem uG(xs:List aU)(hlen:xs.length<=4194304)(hsz:∀b∈xs,b.sz<=4194304):bg prog 272 [.c (.d (.sl (xs.map aU.enc)))] (.agg [.d (.s []),.d (.sl ((xs.map w9).map au.enc))]):=fun S=>by
 obtain⟨T,hT⟩:∃T:Nat->List (List D),T=fun i=>((xs.map w9).take i).map au.enc:=⟨_,rfl⟩
 have hT0:T 0=[]:=by rw[hT];rfl
 have iG:∀i,(T i).length<=i:=fun i=>by
  rw[hT];simp only[List.length_map];exact List.length_take_le _ _
 have hTs:∀i (hi:i<xs.length),T i++[[.s [],.sl [[.s xs[i].bU,.sl []],[.s (dR xs[i].fType).bK,.sl ((dR xs[i].fType).aA.map au.enc)]]]]=T (i+1):=fun i hi=>by
  have:=iP (base:=[]) (l:=xs.map w9) (i:=i) (by rw[List.length_map];exact hi);rw[List.getElem_map,w9,lI,iy,List.map_cons,List.map_cons,List.map_nil,eY,au.aj (dR xs[i].fType)] at this;rw[hT];exact this
 have hTe:T xs.length=(xs.map w9).map au.enc:=by
  rw[hT];simp only
  rw[List.take_of_length_le (by simp)]
 clear hT;refine zcx [.cell 2 202] func272 ntmps272 ?_;simp -implicitDefEqProofs (disch:=omega) only[go_sem];refine qX 1 1 2 [] [.d (.s []),.bI []] rfl rfl (by simp) ?_
 refine bO (ι:=Nat) zmx rfl [0,2,3,4] (fun i=>[.c (.d (.sl (xs.map aU.enc))),.c (.ptr (0,0) 0),.c (.ptr (0,1) 0),.c (.d (.i .i64 i))])
  (fun i=>[.box [.d (.s []),.bI []],.box [.d (.s []),.bS (0,2) (T i)],.tok 2 (T i)]::S)
  (fun i=>i<=xs.length) (fun i=>xs.length-i) 0 rfl (by rw[hT0];rfl) (Nat.zero_le _) ?_
 intro i hi;have hl:=iG i;simp -implicitDefEqProofs (disch:=omega) only[go_sem]
 with_reducible refine aD (fun hb=> ?_) (fun hb=> ?_)<;>have h:=hb<;>(try simp only[wf_preprocess] at h)<;>simp -implicitDefEqProofs (disch:=omega) only[go_sem,hb]<;>(repeat(with_reducible refine And.intro ?_ ?_;focus first|omega|rfl|assumption|exact⟨_,rfl,rfl⟩|(simp;omega)|(simp;done)))
 ·have hi':i<xs.length:=by omega
  have hm:=List.getElem_mem hi';have hcz:=hsz _ hm;have hce:=aU.sum xs[i];have hs:=hTs i hi'
  (repeat(with_reducible refine And.intro ?_ ?_;focus first|omega|rfl|assumption|exact⟨_,rfl,rfl⟩|(simp;omega)|(simp;done)))
  refine aB (bT _) ?_;simp -implicitDefEqProofs (disch:=omega) only[go_sem]
  (repeat(with_reducible refine And.intro ?_ ?_;focus first|omega|rfl|assumption|exact⟨_,rfl,rfl⟩|(simp;omega)|(simp;done)))
  refine aB (ku xs[i].fType (by omega)) ?_;simp -implicitDefEqProofs (disch:=omega) only[go_sem]
  (repeat(with_reducible refine And.intro ?_ ?_;focus first|omega|rfl|assumption|exact⟨_,rfl,rfl⟩|(simp;omega)|(simp;done)))
  refine aB (lF _ (by simp) (by simp)) ?_;simp -implicitDefEqProofs (disch:=omega) only[go_sem]
  (repeat(with_reducible refine And.intro ?_ ?_;focus first|omega|rfl|assumption|exact⟨_,rfl,rfl⟩|(simp;omega)|(simp;done)))
  rw[hs];exact cZ (i+1) (by omega) rfl rfl (by omega)
 ·have hi':i=xs.length:=by omega
  subst hi';rw[hTe]
theorem aaP(f:bJ)(hsz:f.sz<=1048576):bg prog 258 [f.v] (RQ f).v:=by
 unfold RQ
 cases hv:mD f with
 |false=>
  rw[uw];refine bg.less (fun S=> ?_) (DC [] []);refine zcx [.cell 2 202] func258 ntmps258 ?_;simp -implicitDefEqProofs (disch:=omega) only[go_sem];refine aB (yu f (by omega)) ?_;simp -implicitDefEqProofs (disch:=omega) only[go_sem,hv]
 |true=>
  intro S;have hdz:=bJ.sum f;rw[eB] at hdz;obtain⟨hf1,hf2,hf3,I5⟩:=Fp hv;have hz:=aiN I5;obtain⟨T,hT⟩:∃T:Nat->List (List D),T=fun i=>((f.bP.map vD).take i).map au.enc:=⟨_,rfl⟩
  have hT0:T 0=[]:=by rw[hT];rfl
  have iG:∀i,(T i).length<=i:=fun i=>by
   rw[hT];simp only[List.length_map];exact List.length_take_le _ _
  have hTs:∀i (hi:i<f.bP.length),T i++[[.s [],.sl [[.s f.bP[i].fName,.sl []],[.s (dR f.bP[i].fType).bK,.sl ((dR f.bP[i].fType).aA.map au.enc)]]]]=T (i+1):=fun i hi=>by
   have:=iP (base:=[]) (l:=f.bP.map vD) (i:=i) (by rw[List.length_map];exact hi);rw[List.getElem_map,vD,lI,iy,List.map_cons,List.map_cons,List.map_nil,eY,au.aj (dR f.bP[i].fType)] at this;rw[hT];exact this
  have hTe:T f.bP.length=(f.bP.map vD).map au.enc:=by
   rw[hT];simp only
   rw[List.take_of_length_le (by simp)]
  clear hT;refine zcx [.cell 2 202] func258 ntmps258 ?_;simp -implicitDefEqProofs (disch:=omega) only[go_sem];refine aB (yu f (by omega)) ?_;simp -implicitDefEqProofs (disch:=omega) only[go_sem,hv];refine qX 2 1 2 [] [.d (.s []),.bI []] rfl rfl (by simp) ?_
  refine bO (ι:=Nat) zmx rfl [1,2,3,4] (fun i=>[.c (.ptr (0,0) 0),.c (.ptr (0,1) 0),.c (.ptr (0,2) 0),.c (.d (.i .i64 i))])
   (fun i=>[.box [.d (.s f.fName),.d (.sl (f.aS.map encS)),.d (.sl (f.dS.map aU.enc)),.d (.sl (f.bP.map dG.enc)),.d (.i .i64 f.cu.aV),.d (.s f.cu.fName),.d (.sl (f.cu.fArgs.map ay.enc)),.d (.i .i64 f.fBody.aV),.d (.s f.fBody.bU),.d (.s f.fBody.fName),.d (.i .i64 f.fBody.fN),.d (.i .i64 f.fBody.fType.aV),.d (.s f.fBody.fType.fName),.d (.sl (f.fBody.fType.fArgs.map ay.enc)),.d (.sl (f.fBody.fArgs.map aC.enc)),.d (.sl (f.fBody.bH.map bn.enc))],.box [.d (.s []),.bI []],.box [.d (.s []),.bS (0,3) (T i)],.tok 2 (T i)]::S)
   (fun i=>i<=f.bP.length) (fun i=>f.bP.length-i) 0 rfl (by rw[hT0];rfl) (Nat.zero_le _) ?_
  intro i hi;have hl:=iG i;simp -implicitDefEqProofs (disch:=omega) only[go_sem]
  with_reducible refine aD (fun hb=> ?_) (fun hb=> ?_)<;>have h:=hb<;>(try simp only[wf_preprocess] at h)<;>simp -implicitDefEqProofs (disch:=omega) only[go_sem,hb]<;>(repeat(with_reducible refine And.intro ?_ ?_;focus first|omega|rfl|assumption|exact⟨_,rfl,rfl⟩|(simp;omega)|(simp;done)))
  ·have hi':i<f.bP.length:=by omega
   have hm:=List.getElem_mem hi';have hcz:=Vi hm;have hce:=dG.sum f.bP[i];have hs:=hTs i hi'
   (repeat(with_reducible refine And.intro ?_ ?_;focus first|omega|rfl|assumption|exact⟨_,rfl,rfl⟩|(simp;omega)|(simp;done)))
   refine aB (bT _) ?_;simp -implicitDefEqProofs (disch:=omega) only[go_sem]
   (repeat(with_reducible refine And.intro ?_ ?_;focus first|omega|rfl|assumption|exact⟨_,rfl,rfl⟩|(simp;omega)|(simp;done)))
   refine aB (ku f.bP[i].fType (by omega)) ?_;simp -implicitDefEqProofs (disch:=omega) only[go_sem]
   (repeat(with_reducible refine And.intro ?_ ?_;focus first|omega|rfl|assumption|exact⟨_,rfl,rfl⟩|(simp;omega)|(simp;done)))
   refine aB (lF _ (by simp) (by simp)) ?_;simp -implicitDefEqProofs (disch:=omega) only[go_sem]
   (repeat(with_reducible refine And.intro ?_ ?_;focus first|omega|rfl|assumption|exact⟨_,rfl,rfl⟩|(simp;omega)|(simp;done)))
   rw[hs];exact cZ (i+1) (by omega) rfl rfl (by omega)
  ·have hi':i=f.bP.length:=by omega
   subst hi';rw[hTe];refine aB (bT _) ?_;simp -implicitDefEqProofs (disch:=omega) only[go_sem];refine aB (bT _) ?_;simp -implicitDefEqProofs (disch:=omega) only[go_sem];refine aB (dY f.aS (by omega)) ?_;simp -implicitDefEqProofs (disch:=omega) only[go_sem];refine aB (uG f.dS (by omega) (fun b hb=>by have:=yt hb;omega)) ?_;simp -implicitDefEqProofs (disch:=omega) only[go_sem];refine aB (ku f.cu (by omega)) ?_;simp -implicitDefEqProofs (disch:=omega) only[go_sem];refine aB (rA f.fBody I5 (by omega)) ?_;simp -implicitDefEqProofs (disch:=omega) only[go_sem]
   (repeat(with_reducible refine And.intro ?_ ?_;focus first|omega|rfl|assumption|exact⟨_,rfl,rfl⟩|(simp;omega)|(simp;done)))
   refine aB (lF _ (by simp) (by simp)) ?_;simp -implicitDefEqProofs (disch:=omega) only[go_sem]
   (repeat(with_reducible refine And.intro ?_ ?_;focus first|omega|rfl|assumption|exact⟨_,rfl,rfl⟩|(simp;omega)|(simp;done)))
   have hI:=pQ true (Oq f) (by omega)
   have hx:(Oq f).v=V.agg [.d (.s []),.d (.sl [[.s [102,110],.sl []],[.s f.fName,.sl []],[.s [],.sl ((dn f.aS).map au.enc)],[.s [],.sl ((f.dS.map w9).map au.enc)],[.s [],.sl ((f.bP.map vD).map au.enc)],[.s (dR f.cu).bK,.sl ((dR f.cu).aA.map au.enc)],[.s (fQ f.fBody).bK,.sl ((fQ f.fBody).aA.map au.enc)]])]:=by
    rw[Oq];show V.agg [.d (.s []),.d (.sl (List.map au.enc _))]=_;simp only[iy,List.map_cons,List.map_nil,eY,jl,au.aj (dR f.cu),au.aj (fQ f.fBody),Gx]
   rw[hx] at hI;refine aB hI ?_;simp -implicitDefEqProofs (disch:=omega) only[go_sem]
end Go.Ab