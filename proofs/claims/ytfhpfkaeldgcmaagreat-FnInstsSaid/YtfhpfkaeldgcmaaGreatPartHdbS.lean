/-
  SEVERAL TEXTS IN ONE (merged by program): contracts and models, each with its own heading.
-/
import Derived.Test.YtfhpfkaeldgcmaaGreatPartHdbO
import Derived.Test.YtfhpfkaeldgcmaaGreatPartHdbQ
import Derived.Test.YtfhpfkaeldgcmaaGreatPartHdbR
import Derived.Lib.AppendZeros
import Derived.Laws.Cover3
set_option maxHeartbeats 8000000
open Go.Proofs Go.Proofs.Tryz
set_option linter.unusedSimpArgs false
set_option linter.unusedVariables false
set_option maxRecDepth 4000
namespace Go.Ab
theorem Jd{xs:List (List UInt8)}:∀y∈xs.map encS,y.length=1:=fun y hy=>by
 obtain⟨z,_,rfl⟩:=List.mem_map.1 hy;rfl
theorem cB.args{P:Program}{f:FuncId}{args args':List V}{S:Store}{post:V->Store->Prop}(h:cB P f args' S post)(hl:tK args args'):cB P f args S post:=h.weaken hl.length fun j x y hx hy w σ β v hr=>hl.at j x y hx hy w σ S β v hr
theorem rA{x:aC}{k:Int}(h:x.aR=k):jY x.aR x.bU x.fName x.fType=jY k x.bU x.fName x.fType:=by rw[h]
theorem Z5{l:List aC}{t:aC}(h:t∈l):t.sz<=rT l:=by
 rw[<-I9];exact dV (List.mem_map_of_mem h)
theorem Xb{l:List aZ}{t:aZ}(h:t∈l):t.sz<=zh l:=by
 rw[<-Ja];exact dV (List.mem_map_of_mem h)
theorem Ij:∀{xs:List aC},lG xs=true<->∀t∈xs,iW t=true
 |[]=>by simp[lG]
 |t::ts=>by simp[lG,Ij (xs:=ts)]
theorem KQ:∀{xs:List aZ},og xs=true<->∀t∈xs,yc t=true
 |[]=>by simp[og]
 |t::ts=>by simp[og,KQ (xs:=ts)]
theorem tQ{x:aC}(h1:x.aR≠1)(h2:x.aR≠2)(h3:x.aR≠3)(h:x.aR=4\/x.aR=5\/x.aR=6\/x.aR=8\/x.aR=9\/x.aR=10\/x.aR=11\/x.aR=12):
 fO x=d9 (jY x.aR x.bU x.fName x.fType++x.fArgs.map fO):=by rw[QW,if_neg h1,if_neg h2,if_neg h3,if_pos h,List.append_nil]
theorem nQ(hd:List au)(xs:List aC)(S:Store)(hA:∀t∈xs,bq prog 270 [t.v] (fO t).v)(hl:xs.length<=4194304)(hh:hd.length<=4):cB prog 277 [.c (.bI (hd.map au.enc)),.c (.d (.sl (xs.map aC.enc)))] S
 (fun r S'=>r=.agg [.d (.s []),.d (.sl ((hd++xs.map fO).map au.enc))]/\S'=S):=by
 obtain⟨T,hT⟩:∃T:Nat->List (List D),T=fun i=>(hd++(xs.map fO).take i).map au.enc:=⟨_,rfl⟩
 have hT0:T 0=hd.map au.enc:=by rw[hT];simp only[List.take_zero,List.append_nil]
 have iE:∀i,(T i).length<=i+hd.length:=fun i=>by
  rw[hT];simp only[List.length_map,List.length_append];have:=List.length_take_le i (xs.map fO);omega
 have hTs:∀i (hi:i<xs.length),T i++[[.s (fO xs[i]).bC,.sl ((fO xs[i]).aA.map au.enc)]]=T (i+1):=fun i hi=>by
  have:=iN (base:=hd) (l:=xs.map fO) (i:=i) (by rw[List.length_map];exact hi);rw[List.getElem_map] at this;rw[hT];exact this
 have hTe:T xs.length=(hd++xs.map fO).map au.enc:=by rw[hT];simp only;rw[List.take_of_length_le (by simp)]
 clear hT;rw[<-hT0];rw[<-hTe];refine zcx [.cell 4 202] func277 ntmps277 ?_;simp -implicitDefEqProofs (disch:=omega) only[go_sem];refine Bq 1 1 2 (T 0) [.d (.s []),.bI (T 0)] rfl rfl (by rw[hT0];exact je) ?_
 refine bT (ι:=Nat) zmx rfl [1,4,5,6] (fun i=>[.c (.d (.sl (xs.map aC.enc))),.c (.ptr (0,0) 0),.c (.ptr (0,1) 0),.c (.d (.i .i64 i))])
  (fun i=>[.box [.d (.s []),.bI []],.box [.d (.s []),.bX (0,2) (T i)],.tok 2 (T i)]::S)
  (fun i=>i<=xs.length) (fun i=>xs.length-i) 0 rfl rfl (Nat.zero_le _) ?_
 intro i hi;have hl:=iE i;simp -implicitDefEqProofs (disch:=omega) only[go_sem]
 with_reducible refine aD (fun hb=> ?_) (fun hb=> ?_)<;>have h:=hb<;>(try simp only[wf_preprocess] at h)<;>simp -implicitDefEqProofs (disch:=omega) only[go_sem,hb]<;>(repeat(with_reducible refine And.intro ?_ ?_;focus first|omega|rfl|assumption|exact⟨_,rfl,rfl⟩|(simp;omega)|(simp;done)))
 ·have hi':i<xs.length:=by omega
  have hs:=hTs i hi'
  (repeat(with_reducible refine And.intro ?_ ?_;focus first|omega|rfl|assumption|exact⟨_,rfl,rfl⟩|(simp;omega)|(simp;done)))
  refine aB (hA xs[i] (List.getElem_mem hi')) ?_;simp -implicitDefEqProofs (disch:=omega) only[go_sem]
  (repeat(with_reducible refine And.intro ?_ ?_;focus first|omega|rfl|assumption|exact⟨_,rfl,rfl⟩|(simp;omega)|(simp;done)))
  rw[hs];exact dG (i+1) (by omega) rfl rfl (by omega)
 ·have hi':i=xs.length:=by omega
  subst hi';rfl
theorem QX(hd:List au)(xs:List aC)(cO:List Ab.Obj)(Ω:Store)(hA:∀t∈xs,bq prog 270 [t.v] (fO t).v)(hl:xs.length<=4194304)(hh:hd.length<=4):cB prog 277 [.c (.bI (hd.map au.enc)),.c (.d (.sl (xs.map aC.enc)))] (cO::Ω)
 (fun r S'=>r=.agg [.d (.s []),.bX (0,cO.length+2) ((hd++xs.map fO).map au.enc)]/\S'=(cO++[.box [.d (.s []),.bX (0,cO.length+2) ((hd++xs.map fO).map au.enc)],.box [.d (.s []),.bX (0,cO.length+2) ((hd++xs.map fO).map au.enc)],.tok 2 ((hd++xs.map fO).map au.enc)])::Ω):=by
 obtain⟨T,hT⟩:∃T:Nat->List (List D),T=fun i=>(hd++(xs.map fO).take i).map au.enc:=⟨_,rfl⟩
 have hT0:T 0=hd.map au.enc:=by rw[hT];simp only[List.take_zero,List.append_nil]
 have iE:∀i,(T i).length<=i+hd.length:=fun i=>by
  rw[hT];simp only[List.length_map,List.length_append];have:=List.length_take_le i (xs.map fO);omega
 have hTs:∀i (hi:i<xs.length),T i++[[.s (fO xs[i]).bC,.sl ((fO xs[i]).aA.map au.enc)]]=T (i+1):=fun i hi=>by
  have:=iN (base:=hd) (l:=xs.map fO) (i:=i) (by rw[List.length_map];exact hi);rw[List.getElem_map] at this;rw[hT];exact this
 have hTe:T xs.length=(hd++xs.map fO).map au.enc:=by rw[hT];simp only;rw[List.take_of_length_le (by simp)]
 clear hT;rw[<-hT0];rw[<-hTe];refine FH (rs:=[.cell 4 202]) zmx func277 ntmps277 rfl rfl rfl rfl rfl ?_;simp -implicitDefEqProofs (disch:=omega) only[go_sem];refine Bq 1 1 2 (T 0) [.d (.s []),.bI (T 0)] rfl rfl (by rw[hT0];exact je) ?_
 refine bT (ι:=Nat) zmx rfl [1,4,5,6] (fun i=>[.c (.d (.sl (xs.map aC.enc))),.c (.ptr (0,0) 0),.c (.ptr (0,1) 0),.c (.d (.i .i64 i))])
  (fun i=>[.box [.d (.s []),.bI []],.box [.d (.s []),.bX (0,2) (T i)],.tok 2 (T i)]::cO::Ω)
  (fun i=>i<=xs.length) (fun i=>xs.length-i) 0 rfl rfl (Nat.zero_le _) ?_
 intro i hi;have hl:=iE i;simp -implicitDefEqProofs (disch:=omega) only[go_sem]
 with_reducible refine aD (fun hb=> ?_) (fun hb=> ?_)<;>have h:=hb<;>(try simp only[wf_preprocess] at h)<;>simp -implicitDefEqProofs (disch:=omega) only[go_sem,hb]<;>(repeat(with_reducible refine And.intro ?_ ?_;focus first|omega|rfl|assumption|exact⟨_,rfl,rfl⟩|(simp;omega)|(simp;done)))
 ·have hi':i<xs.length:=by omega
  have hs:=hTs i hi'
  (repeat(with_reducible refine And.intro ?_ ?_;focus first|omega|rfl|assumption|exact⟨_,rfl,rfl⟩|(simp;omega)|(simp;done)))
  refine aB (hA xs[i] (List.getElem_mem hi')) ?_;simp -implicitDefEqProofs (disch:=omega) only[go_sem]
  (repeat(with_reducible refine And.intro ?_ ?_;focus first|omega|rfl|assumption|exact⟨_,rfl,rfl⟩|(simp;omega)|(simp;done)))
  rw[hs];exact dG (i+1) (by omega) rfl rfl (by omega)
 ·have hi':i=xs.length:=by omega
  subst hi';exact⟨rfl,rfl⟩
theorem KR:∀N:Nat,∀x:aC,SizeOf.sizeOf x<N->iW x=true->x.sz<=4194304->bq prog 270 [x.v] (fO x).v
 |0=>fun x h=>by omega
 |N+1=>by
  have ih:=KR N;intro x hn hok hsz S;have oF:=aC.kQ x;have KO:=aC.zP x;have hzz:=xH x;rw[Nl,Bool.and_eq_true,Bool.and_eq_true] at hok;obtain⟨hfi,hoa,hom⟩:=hok;have hfi:=gL hfi;have hoa:=Ij.1 hoa;have hom:=KQ.1 hom;have hA:∀t∈x.fArgs,bq prog 270 [t.v] (fO t).v:=fun t ht=>ih t (by have:=List.sizeOf_lt_of_mem ht;omega) (hoa t ht) (by have:=Z5 ht;omega);have hxe:=QW x;refine zcx [.cell 2 202] func270 ntmps270 ?_;simp -implicitDefEqProofs (disch:=omega) only[go_sem]
  with_reducible refine aD (fun hb=> ?_) (fun hb=> ?_)<;>have h:=hb<;>(try simp only[wf_preprocess] at h)<;>simp -implicitDefEqProofs (disch:=omega) only[go_sem,hb]<;>(repeat(with_reducible refine And.intro ?_ ?_;focus first|omega|rfl|assumption|exact⟨_,rfl,rfl⟩|(simp;omega)|(simp;done)))
  ·rw[if_pos h] at hxe;rw[hxe];have hb:=hfi.2.2.2.1;rw[if_pos h] at hb;refine aB (u7 x.fN (by omega) (by omega)) ?_;simp -implicitDefEqProofs (disch:=omega) only[go_sem];refine aB (bQ _) ?_;simp -implicitDefEqProofs (disch:=omega) only[go_sem];rfl
  have k1:=h;rw[if_neg h] at hxe
  with_reducible refine aD (fun hb=> ?_) (fun hb=> ?_)<;>have h:=hb<;>(try simp only[wf_preprocess] at h)<;>simp -implicitDefEqProofs (disch:=omega) only[go_sem,hb]<;>(repeat(with_reducible refine And.intro ?_ ?_;focus first|omega|rfl|assumption|exact⟨_,rfl,rfl⟩|(simp;omega)|(simp;done)))
  ·rw[if_pos h] at hxe;rw[hxe];have hb:=hfi.2.2.2.1;rw[if_neg k1,if_pos h] at hb;rcases hb with e|e
   ·rw[e];simp -implicitDefEqProofs (disch:=omega) only[go_sem,List.getD_cons_zero]
    (repeat(with_reducible refine And.intro ?_ ?_;focus first|omega|rfl|assumption|exact⟨_,rfl,rfl⟩|(simp;omega)|(simp;done)))
    refine aB (bQ _) ?_;simp -implicitDefEqProofs (disch:=omega) only[go_sem];rfl
   ·rw[e];simp -implicitDefEqProofs (disch:=omega) only[go_sem,List.getD_cons_zero,List.getD_cons_succ]
    (repeat(with_reducible refine And.intro ?_ ?_;focus first|omega|rfl|assumption|exact⟨_,rfl,rfl⟩|(simp;omega)|(simp;done)))
    refine aB (bQ _) ?_;simp -implicitDefEqProofs (disch:=omega) only[go_sem];rfl
  have k2:=h;rw[if_neg h] at hxe
  with_reducible refine aD (fun hb=> ?_) (fun hb=> ?_)<;>have h:=hb<;>(try simp only[wf_preprocess] at h)<;>simp -implicitDefEqProofs (disch:=omega) only[go_sem,hb]<;>(repeat(with_reducible refine And.intro ?_ ?_;focus first|omega|rfl|assumption|exact⟨_,rfl,rfl⟩|(simp;omega)|(simp;done)))
  ·rw[if_pos h] at hxe;rw[hxe];refine aB (bQ _) ?_;simp -implicitDefEqProofs (disch:=omega) only[go_sem];rfl
  have k3:=h;clear hxe
  with_reducible refine aD (fun hb=> ?_) (fun hb=> ?_)<;>have h:=hb<;>(try simp only[wf_preprocess] at h)<;>simp -implicitDefEqProofs (disch:=omega) only[go_sem,hb]<;>(repeat(with_reducible refine And.intro ?_ ?_;focus first|omega|rfl|assumption|exact⟨_,rfl,rfl⟩|(simp;omega)|(simp;done)))
  ·have hx:=tQ k1 k2 k3 (by omega)
   have hh:jY x.aR x.bU x.fName x.fType=[bN pG,bN x.fName]:=by rw[rA h];rfl
   rw[hh] at hx;refine aB (bQ _) ?_;simp -implicitDefEqProofs (disch:=omega) only[go_sem];refine aB (bQ _) ?_;simp -implicitDefEqProofs (disch:=omega) only[go_sem];have hE:=fun S=>nQ [bN pG,bN x.fName] x.fArgs S hA (by omega) (by simp);simp only[List.map_cons,List.map_nil,eU] at hE;refine bn rfl (hE _) ?_;simp -implicitDefEqProofs (disch:=omega) only[go_sem];rw[hx];rfl
  have k4:=h
  with_reducible refine aD (fun hb=> ?_) (fun hb=> ?_)<;>have h:=hb<;>(try simp only[wf_preprocess] at h)<;>simp -implicitDefEqProofs (disch:=omega) only[go_sem,hb]<;>(repeat(with_reducible refine And.intro ?_ ?_;focus first|omega|rfl|assumption|exact⟨_,rfl,rfl⟩|(simp;omega)|(simp;done)))
  ·have hx:=tQ k1 k2 k3 (by omega)
   have hh:jY x.aR x.bU x.fName x.fType=[bN jI,bN x.bU,bN x.fName]:=by rw[rA h];rfl
   rw[hh] at hx;refine aB (bQ _) ?_;simp -implicitDefEqProofs (disch:=omega) only[go_sem];refine aB (bQ _) ?_;simp -implicitDefEqProofs (disch:=omega) only[go_sem];refine aB (bQ _) ?_;simp -implicitDefEqProofs (disch:=omega) only[go_sem];have hE:=fun S=>nQ [bN jI,bN x.bU,bN x.fName] x.fArgs S hA (by omega) (by simp);simp only[List.map_cons,List.map_nil,eU] at hE;refine bn rfl (hE _) ?_;simp -implicitDefEqProofs (disch:=omega) only[go_sem];rw[hx];rfl
  have k5:=h
  with_reducible refine aD (fun hb=> ?_) (fun hb=> ?_)<;>have h:=hb<;>(try simp only[wf_preprocess] at h)<;>simp -implicitDefEqProofs (disch:=omega) only[go_sem,hb]<;>(repeat(with_reducible refine And.intro ?_ ?_;focus first|omega|rfl|assumption|exact⟨_,rfl,rfl⟩|(simp;omega)|(simp;done)))
  ·have hx:=tQ k1 k2 k3 (by omega)
   have hh:jY x.aR x.bU x.fName x.fType=[bN tL,bN x.fName]:=by rw[rA h];rfl
   rw[hh] at hx;refine aB (bQ _) ?_;simp -implicitDefEqProofs (disch:=omega) only[go_sem];refine aB (bQ _) ?_;simp -implicitDefEqProofs (disch:=omega) only[go_sem];have hE:=fun S=>nQ [bN tL,bN x.fName] x.fArgs S hA (by omega) (by simp);simp only[List.map_cons,List.map_nil,eU] at hE;refine bn rfl (hE _) ?_;simp -implicitDefEqProofs (disch:=omega) only[go_sem];rw[hx];rfl
  have k6:=h
  with_reducible refine aD (fun hb=> ?_) (fun hb=> ?_)<;>have h:=hb<;>(try simp only[wf_preprocess] at h)<;>simp -implicitDefEqProofs (disch:=omega) only[go_sem,hb]<;>(repeat(with_reducible refine And.intro ?_ ?_;focus first|omega|rfl|assumption|exact⟨_,rfl,rfl⟩|(simp;omega)|(simp;done)))
  ·have hx:=tQ k1 k2 k3 (by omega)
   have hh:jY x.aR x.bU x.fName x.fType=[bN tO,bN x.fName]:=by rw[rA h];rfl
   rw[hh] at hx;refine aB (bQ _) ?_;simp -implicitDefEqProofs (disch:=omega) only[go_sem];refine aB (bQ _) ?_;simp -implicitDefEqProofs (disch:=omega) only[go_sem];have hE:=fun S=>nQ [bN tO,bN x.fName] x.fArgs S hA (by omega) (by simp);simp only[List.map_cons,List.map_nil,eU] at hE;refine bn rfl (hE _) ?_;simp -implicitDefEqProofs (disch:=omega) only[go_sem];rw[hx];rfl
  have k8:=h
  with_reducible refine aD (fun hb=> ?_) (fun hb=> ?_)<;>have h:=hb<;>(try simp only[wf_preprocess] at h)<;>simp -implicitDefEqProofs (disch:=omega) only[go_sem,hb]<;>(repeat(with_reducible refine And.intro ?_ ?_;focus first|omega|rfl|assumption|exact⟨_,rfl,rfl⟩|(simp;omega)|(simp;done)))
  ·have hx:=tQ k1 k2 k3 (by omega)
   have hh:jY x.aR x.bU x.fName x.fType=[bN yM]:=by rw[rA h];rfl
   rw[hh] at hx;refine aB (bQ _) ?_;simp -implicitDefEqProofs (disch:=omega) only[go_sem];have hE:=fun S=>nQ [bN yM] x.fArgs S hA (by omega) (by simp);simp only[List.map_cons,List.map_nil,eU] at hE;refine bn rfl (hE _) ?_;simp -implicitDefEqProofs (disch:=omega) only[go_sem];rw[hx];rfl
  have k9:=h
  with_reducible refine aD (fun hb=> ?_) (fun hb=> ?_)<;>have h:=hb<;>(try simp only[wf_preprocess] at h)<;>simp -implicitDefEqProofs (disch:=omega) only[go_sem,hb]<;>(repeat(with_reducible refine And.intro ?_ ?_;focus first|omega|rfl|assumption|exact⟨_,rfl,rfl⟩|(simp;omega)|(simp;done)))
  ·have hx:=tQ k1 k2 k3 (by omega)
   have hh:jY x.aR x.bU x.fName x.fType=[bN x.fName]:=by rw[rA h];rfl
   rw[hh] at hx;refine aB (bQ _) ?_;simp -implicitDefEqProofs (disch:=omega) only[go_sem];have hE:=fun S=>nQ [bN x.fName] x.fArgs S hA (by omega) (by simp);simp only[List.map_cons,List.map_nil,eU] at hE;refine bn rfl (hE _) ?_;simp -implicitDefEqProofs (disch:=omega) only[go_sem];rw[hx];rfl
  have k10:=h
  with_reducible refine aD (fun hb=> ?_) (fun hb=> ?_)<;>have h:=hb<;>(try simp only[wf_preprocess] at h)<;>simp -implicitDefEqProofs (disch:=omega) only[go_sem,hb]<;>(repeat(with_reducible refine And.intro ?_ ?_;focus first|omega|rfl|assumption|exact⟨_,rfl,rfl⟩|(simp;omega)|(simp;done)))
  ·have hx:=tQ k1 k2 k3 (by omega)
   have hh:jY x.aR x.bU x.fName x.fType=[bN pI,bN x.bU]:=by rw[rA h];rfl
   rw[hh] at hx;refine aB (bQ _) ?_;simp -implicitDefEqProofs (disch:=omega) only[go_sem];refine aB (bQ _) ?_;simp -implicitDefEqProofs (disch:=omega) only[go_sem];have hE:=fun S=>nQ [bN pI,bN x.bU] x.fArgs S hA (by omega) (by simp);simp only[List.map_cons,List.map_nil,eU] at hE;refine bn rfl (hE _) ?_;simp -implicitDefEqProofs (disch:=omega) only[go_sem];rw[hx];rfl
  have k11:=h
  with_reducible refine aD (fun hb=> ?_) (fun hb=> ?_)<;>have h:=hb<;>(try simp only[wf_preprocess] at h)<;>simp -implicitDefEqProofs (disch:=omega) only[go_sem,hb]<;>(repeat(with_reducible refine And.intro ?_ ?_;focus first|omega|rfl|assumption|exact⟨_,rfl,rfl⟩|(simp;omega)|(simp;done)))
  ·have hx:=tQ k1 k2 k3 (by omega)
   have hh:jY x.aR x.bU x.fName x.fType=[bN sI,dR x.fType]:=by rw[rA h];rfl
   rw[hh] at hx;refine aB (bQ _) ?_;simp -implicitDefEqProofs (disch:=omega) only[go_sem];refine aB (jX x.fType (by omega)) ?_;simp -implicitDefEqProofs (disch:=omega) only[go_sem];have hE:=fun S=>nQ [bN sI,dR x.fType] x.fArgs S hA (by omega) (by simp);simp only[List.map_cons,List.map_nil,eU,au.aj (dR x.fType)] at hE;refine bn rfl (hE _) ?_;simp -implicitDefEqProofs (disch:=omega) only[go_sem];rw[hx];show _=V.agg [.d (.s []),.d (.sl (List.map au.enc (bN sI::dR x.fType::x.fArgs.map fO)))];simp only[List.cons_append,List.nil_append,List.map_cons,eU,au.aj (dR x.fType)];rfl
  have k12:=h
  have hk7:x.aR=7:=by have:=hfi.1;omega
  have hx:=QW x;rw[if_neg k1,if_neg k2,if_neg k3,if_neg (by omega)] at hx
  have hh:jY x.aR x.bU x.fName x.fType=[bN lN]:=by rw[rA hk7];rfl
  rw[hh] at hx;refine aB (bQ _) ?_;simp -implicitDefEqProofs (disch:=omega) only[go_sem];have hE:=fun cO Ω=>QX [bN lN] x.fArgs cO Ω hA (by omega) (by simp);obtain⟨B,hB⟩:∃B:Nat->List (List D),B=fun i=>(([bN lN]++x.fArgs.map fO)++(x.bE.map Db).take i).map au.enc:=⟨_,rfl⟩
  have hB0:([bN lN]++x.fArgs.map fO).map au.enc=B 0:=by rw[hB];simp only[List.take_zero,List.append_nil]
  have hBl:∀i,(B i).length<=i+x.fArgs.length+1:=fun i=>by
   rw[hB];simp only[List.length_append,List.length_map,List.length_cons,List.length_nil];have:=List.length_take_le i (x.bE.map Db);omega
  have hBr:∀i,∀r∈B i,r.length=2:=fun i=>by rw[hB];exact je
  have hBs:∀i (hi:i<x.bE.length),B i++[[.s [],.sl (([bN x.bE[i].fK]++dh x.bE[i].aO++[fO x.bE[i].fBody]).map au.enc)]]=B (i+1):=fun i hi=>by
   have:=iN (base:=[bN lN]++x.fArgs.map fO) (l:=x.bE.map Db) (i:=i) (by rw[List.length_map];exact hi);rw[List.getElem_map,ahN,lu,gZ] at this;rw[hB];exact this
  have hBe:B x.bE.length=([bN lN]++x.fArgs.map fO++x.bE.map Db).map au.enc:=by rw[hB];simp only;rw[List.take_of_length_le (by simp)]
  clear hB;simp only[hB0] at hE;simp only[List.map_cons,List.map_nil,eU] at hE;refine bn rfl (hE _ _) ?_;simp -implicitDefEqProofs (disch:=omega) only[go_sem]
  refine bT (ι:=Nat) zmx rfl [1,2,3,4] (fun i=>[.c (.ptr (0,0) 0),.c (.ptr (0,1) 0),.c (.ptr (0,5) 0),.c (.d (.i .i64 i))])
   (fun i=>[.box [.d (.i .i64 x.aR),.d (.s x.bU),.d (.s x.fName),.d (.i .i64 x.fN),.d (.i .i64 x.fType.aR),.d (.s x.fType.fName),.d (.sl (x.fType.fArgs.map ay.enc)),.d (.sl (x.fArgs.map aC.enc)),.d (.sl (x.bE.map aZ.enc))],.box [.d (.s []),.bI []],.box [.d (.s []),.bX (0,4) (B 0)],.box [.d (.s []),.bX (0,4) (B 0)],.tok 2 (B i),.box [.d (.s []),.bX (0,4) (B i)]]::S)
   (fun i=>i<=x.bE.length) (fun i=>x.bE.length-i) 0 rfl rfl (Nat.zero_le _) ?_
  intro i hi;have hl:=hBl i;have hr:=hBr i;simp -implicitDefEqProofs (disch:=omega) only[go_sem]
  with_reducible refine aD (fun hb=> ?_) (fun hb=> ?_)<;>have h:=hb<;>(try simp only[wf_preprocess] at h)<;>simp -implicitDefEqProofs (disch:=omega) only[go_sem,hb]<;>(repeat(with_reducible refine And.intro ?_ ?_;focus first|omega|rfl|assumption|exact⟨_,rfl,rfl⟩|(simp;omega)|(simp;done)))
  ·have hi':i<x.bE.length:=by omega
   have hm:=List.getElem_mem hi';have hez:=Xb hm;have hea:=BD x.bE[i];have hs:=hBs i hi';have hak:=hom _ hm;rw[xD,Bool.and_eq_true,Bool.and_eq_true] at hak;have hls:=List.sizeOf_lt_of_mem hm;have hlb:=aZ.xB x.bE[i]
   (repeat(with_reducible refine And.intro ?_ ?_;focus first|omega|rfl|assumption|exact⟨_,rfl,rfl⟩|(simp;omega)|(simp;done)))
   refine aB (bQ _) ?_;simp -implicitDefEqProofs (disch:=omega) only[go_sem]
   (repeat(with_reducible refine And.intro ?_ ?_;focus first|omega|rfl|assumption|exact⟨_,rfl,rfl⟩|(simp;omega)|(simp;done)))
   refine aB (FZ x.bE[i].aO (by omega)) ?_;have hwr:=je (l:=dh x.bE[i].aO)
   have hwl:(dh x.bE[i].aO).length=x.bE[i].aO.length:=by rw[kS]
   simp -implicitDefEqProofs (disch:=omega) only[go_sem]
   (repeat(with_reducible refine And.intro ?_ ?_;focus first|omega|rfl|assumption|exact⟨_,rfl,rfl⟩|(simp;omega)|(simp;done)))
   refine aB (ih x.bE[i].fBody (by omega) hak.2.2 (by omega)) ?_;simp -implicitDefEqProofs (disch:=omega) only[go_sem]
   (repeat(with_reducible refine And.intro ?_ ?_;focus first|omega|rfl|assumption|exact⟨_,rfl,rfl⟩|(simp;omega)|(simp;done)))
   simp only[List.cons_append,List.nil_append,List.map_cons,List.map_nil,List.map_append,eU,au.aj (fO x.bE[i].fBody)] at hs;rw[hs];exact fu 6 (by decide) (i+1) (by omega) rfl rfl rfl rfl (by omega)
  ·have hi':i=x.bE.length:=by omega
   subst hi';rw[hx,hBe];rfl
theorem qN(x:aC)(hok:iW x=true)(hsz:x.sz<=4194304):bq prog 270 [x.v] (fO x).v:=KR _ x (Nat.lt_succ_self _) hok hsz
theorem QY{x:aC}(h:vG x=true):iW x=true:=by rw[vG,Bool.and_eq_true] at h;exact h.2
noncomputable def Ec(k:Int)(n:List UInt8)(bound out:List (List UInt8)):List (List UInt8):=if k=3/\n∉bound/\n∉out then out++[n] else out
mutual
noncomputable def mX:aC->List (List UInt8)->List (List UInt8)->List (List UInt8)
 | .mk k _ n _ _ a b,bound,out=>wH b bound (ug a k n 0 bound (Ec k n bound out))
noncomputable def ug:List aC->Int->List UInt8->Nat->List (List UInt8)->List (List UInt8)->List (List UInt8)
 |[],_,_,_,_,out=>out
 |x::xs,k,n,i,bound,out=>ug xs k n (i+1) bound (mX x (if k=8/\i=1 then bound++[n] else bound) out)
noncomputable def wH:List aZ->List (List UInt8)->List (List UInt8)->List (List UInt8)
 |[],_,out=>out
 |x::xs,bound,out=>wH xs bound (Ed x bound out)
noncomputable def Ed:aZ->List (List UInt8)->List (List UInt8)->List (List UInt8)
 | .mk _ v b,bound,out=>mX b (bound++v) out
end
theorem adi(x:aC)(bound out:List (List UInt8)):mX x bound out=wH x.bE bound (ug x.fArgs x.aR x.fName 0 bound (Ec x.aR x.fName bound out)):=by cases x;rw[mX];rfl
theorem adj(x:aZ)(bound out:List (List UInt8)):Ed x bound out=mX x.fBody (bound++x.aO) out:=by cases x;rw[Ed];rfl
theorem Xc{xs:List aC}{k:Int}{n:List UInt8}{i:Nat}{bound out:List (List UInt8)}(hi:i<xs.length):ug (xs.drop i) k n i bound out=ug (xs.drop (i+1)) k n (i+1) bound (mX xs[i] (if k=8/\i=1 then bound++[n] else bound) out):=by
 rw[List.drop_eq_getElem_cons hi,ug]
theorem Xd{xs:List aZ}{i:Nat}{bound out:List (List UInt8)}(hi:i<xs.length):wH (xs.drop i) bound out=wH (xs.drop (i+1)) bound (Ed xs[i] bound out):=by
 rw[List.drop_eq_getElem_cons hi,wH]
theorem QZ(k:Int)(n:List UInt8)(bound out:List (List UInt8)):(Ec k n bound out).length<=out.length+1:=by
 unfold Ec;split<;>simp
mutual
theorem yN:∀(x:aC)(bound out:List (List UInt8)),(mX x bound out).length<=out.length+x.cnt
 | .mk k t n m ty a b,bound,out=>by
   have h1:=QZ k n bound out;have h2:=Ny a k n 0 bound (Ec k n bound out);have h3:=Nz b bound (ug a k n 0 bound (Ec k n bound out));rw[mX,aC.cnt];omega
theorem Ny:∀(xs:List aC)(k:Int)(n:List UInt8)(i:Nat)(bound out:List (List UInt8)),(ug xs k n i bound out).length<=out.length+aC.fU xs
 |[],k,n,i,bound,out=>by rw[ug,aC.fU];omega
 |x::xs,k,n,i,bound,out=>by
  have h1:=yN x (if k=8/\i=1 then bound++[n] else bound) out;have h2:=Ny xs k n (i+1) bound (mX x (if k=8/\i=1 then bound++[n] else bound) out);rw[ug,aC.fU];omega
theorem Nz:∀(xs:List aZ)(bound out:List (List UInt8)),(wH xs bound out).length<=out.length+aZ.fU xs
 |[],bound,out=>by rw[wH,aZ.fU];omega
 |x::xs,bound,out=>by
  have h1:=Z6 x bound out;have h2:=Nz xs bound (Ed x bound out);rw[wH,aZ.fU];omega
theorem Z6:∀(x:aZ)(bound out:List (List UInt8)),(Ed x bound out).length<=out.length+x.cnt
 | .mk c v b,bound,out=>by
   have h1:=yN b (bound++v) out;rw[Ed,aZ.cnt];omega
end
theorem aC.CZ{x:aC}{i:Nat}(hi:i<x.fArgs.length):x.fArgs[i].sz+x.fArgs.length<=x.sz:=by
 have hx:x.fArgs[i].sz<=aI (x.fArgs.map aC.enc):=dV (List.mem_map_of_mem (List.getElem_mem hi));have:=aC.IY x;omega
theorem aC.ahS{x:aC}{i:Nat}(hi:i<x.bE.length):x.bE[i].sz+x.bE.length<=x.sz:=by
 have hx:x.bE[i].sz<=aI (x.bE.map aZ.enc):=dV (List.mem_map_of_mem (List.getElem_mem hi));have:=aC.IY x;omega
theorem aZ.afU(x:aZ):x.aO.length+x.fBody.sz<=x.sz:=by
 simp only[aZ.sz,aZ.aj,aC.sz,bF,bL,D.sz,List.length_map];omega
theorem Xe(xs:List (List UInt8))(s:List UInt8):xs.map encS++[[D.s s]]=(xs++[s]).map encS:=by simp[encS]
theorem F5:∀N:Nat,∀x:aC,SizeOf.sizeOf x<N->x.sz<=4194304->∀(bound out:List (List UInt8))(l j:Nat)(S:Store),bg S (l,j)=some (.tok 1 (out.map encS))->out.length+x.cnt<=1073741824->bound.length+x.sz<=1073741824->
 cB prog 213 [x.v,.c (.d (.sl (bound.map encS))),.c (.bX (l,j) (out.map encS))] S (fun r S'=>r=.c (.bX (l,j) ((mX x bound out).map encS))/\S'=aX S (l,j) (.tok 1 ((mX x bound out).map encS)))
 |0=>fun x h=>by omega
 |N+1=>by
  have ih:=F5 N;intro x hn hsz bound out l j S hk hc hbd;have hb0:=aC.IY x;have oF:=aC.kQ x;have KO:=aC.zP x;have hcn:=aC.Ar x;have ZH:∀y:Ab.Obj,bg (aX S (l,j) y) (l,j)=some y:=fun y=>dn _ _ _ _ hk;have hS0:aX S (l,j) (.tok 1 (out.map encS))=S:=Bp _ _ hk;have fin:=adi x bound out;have hal:=QZ x.aR x.fName bound out;obtain⟨o1,ho1⟩:∃o1,Ec x.aR x.fName bound out=o1:=⟨_,rfl⟩;rw[ho1] at fin hal;refine(show Hold ?T->_ from fun tail=> ?main) ?tp
  case' main=>
   refine zcx [.tmp 6] func213 ntmps213 ?_;simp -implicitDefEqProofs (disch:=omega) only[go_sem,hk]
   repeat' (first
    |(with_reducible refine aD (fun hb=> ?_) (fun hb=> ?_)<;>have h:=hb<;>(try simp only[wf_preprocess] at h)<;>simp -implicitDefEqProofs (disch:=omega) only[go_sem,hb,hk]<;>(repeat(with_reducible refine And.intro ?_ ?_;focus first|omega|rfl|assumption|exact⟨_,rfl,rfl⟩|(simp;omega)|(simp;done))))
    |(refine aB (nZ bound x.fName (by omega)) ?_;simp -implicitDefEqProofs (disch:=omega) only[go_sem,hk];(repeat(with_reducible refine And.intro ?_ ?_;focus first|omega|rfl|assumption|exact⟨_,rfl,rfl⟩|(simp;omega)|(simp;done))))
    |(refine aB (nZ out x.fName (by omega)) ?_;simp -implicitDefEqProofs (disch:=omega) only[go_sem,hk];(repeat(with_reducible refine And.intro ?_ ?_;focus first|omega|rfl|assumption|exact⟨_,rfl,rfl⟩|(simp;omega)|(simp;done)))))
   all_goals first
    |(have ha:Ec x.aR x.fName bound out=out++[x.fName]:=if_pos ⟨by assumption,by assumption,by assumption⟩)
    |(have ha:Ec x.aR x.fName bound out=out:=if_neg (fun y=>by have:=y.1;have:=y.2.1;have:=y.2.2;contradiction))
   all_goals
    refine Ay (st':=[.box (x.enc.map .d)]::aX S (l,j) (.tok 1 (o1.map encS))) [1,2,3,7] [.c (.d (.sl (bound.map encS))),.c (.bX (1+l,j) (o1.map encS)),.c (.ptr (0,0) 0),.c (.d (.i .i64 0))] ?_ ?_ ?_
    ·first|(rw[<-ho1,ha];rfl)|(rw[<-ho1,ha,<-Xe];rfl)
    ·first|(rw[<-ho1,ha,hS0];simp -implicitDefEqProofs (disch:=omega) only[go_sem];done)|(rw[<-ho1,ha,<-Xe];simp -implicitDefEqProofs (disch:=omega) only[go_sem];done)
    ·exact tail.out
  refine⟨?_⟩;clear ho1
  refine bT (ι:=Nat×List (List UInt8)) zmx rfl [1,2,3,7] (fun y=>[.c (.d (.sl (bound.map encS))),.c (.bX (1+l,j) (y.2.map encS)),.c (.ptr (0,0) 0),.c (.d (.i .i64 y.1))]) (fun y=>[.box (x.enc.map .d)]::aX S (l,j) (.tok 1 (y.2.map encS)))
   (fun y=>y.1<=x.fArgs.length/\y.2.length+aC.fU (x.fArgs.drop y.1)+aZ.fU x.bE<=1073741824/\ug (x.fArgs.drop y.1) x.aR x.fName y.1 bound y.2=ug x.fArgs x.aR x.fName 0 bound o1) (fun y=>x.fArgs.length-y.1) (0,o1) rfl rfl ⟨Nat.zero_le _,by simp only[List.drop_zero];omega,rfl⟩ ?_
  rintro⟨i,o⟩ ⟨p1,p2,p3⟩
  have refs:∀{a b},ny 1 (jC [1,2,3,7] [.c (.d (.sl (bound.map encS))),.c (.bX (1+l,j) a),.c (.ptr (0,0) 0),.c (.d (.i .i64 b))])=true:=fun {a b}=>by simp[ny,jC,V.refs,C.refs,oH];omega
  simp only at p1 p2 p3;simp -implicitDefEqProofs (disch:=omega) only[go_sem]
  with_reducible refine aD (fun hb=> ?_) (fun hb=> ?_)<;>have h:=hb<;>(try simp only[wf_preprocess] at h)<;>simp -implicitDefEqProofs (disch:=omega) only[go_sem,hb]<;>(repeat(with_reducible refine And.intro ?_ ?_;focus first|omega|rfl|assumption|exact⟨_,rfl,rfl⟩|(simp;omega)|(simp;done)))
  ·have hi:i<x.fArgs.length:=by omega
   have hs:=List.sizeOf_lt_of_mem (List.getElem_mem hi);have hz:=aC.CZ hi;rw[Xc hi] at p3;rw[aC.qK hi] at p2;have hlo:=yN x.fArgs[i] (if x.aR=8/\i=1 then bound++[x.fName] else bound) o
   have two:x.fArgs[i].sz+(bound.length+1)<=1073741824:=by omega
   repeat' (first|with_reducible refine aD (fun hb=> ?_) (fun hb=> ?_)<;>have h:=hb<;>(try simp only[wf_preprocess] at h)<;>simp -implicitDefEqProofs (disch:=omega) only[go_sem,hb]<;>(repeat(with_reducible refine And.intro ?_ ?_;focus first|omega|rfl|assumption|exact⟨_,rfl,rfl⟩|(simp;omega)|(simp;done))))
   ·have e1:x.aR=8/\i=1:=⟨by omega,by omega⟩;rw[if_pos e1] at p3 hlo;refine⟨Jd,⟨_,rfl,rfl⟩,fun y hy=>(by cases hy),by omega,?_⟩
    (repeat(with_reducible refine And.intro ?_ ?_;focus first|omega|rfl|assumption|exact⟨_,rfl,rfl⟩|(simp;omega)|(simp;done)))
    rw[Xe];refine cu [true,false,true] rfl (ih x.fArgs[i] (by omega) (by omega) (bound++[x.fName]) o (1+l) j _ (by simp -implicitDefEqProofs (disch:=omega) only[go_sem];exact ZH _) (by omega) (by simp only[List.length_append,List.length_cons,List.length_nil];omega)) ?_;simp -implicitDefEqProofs (disch:=omega) only[go_sem,ah];exact fu 1 (by decide) (i+1,mX x.fArgs[i] (bound++[x.fName]) o) (by simp only;omega) rfl rfl refs rfl ⟨by simp only;omega,by simp only;omega,p3⟩
   all_goals
    have e1:¬(x.aR=8/\i=1):=fun h=>by omega
    rw[if_neg e1] at p3 hlo
    (repeat(with_reducible refine And.intro ?_ ?_;focus first|omega|rfl|assumption|exact⟨_,rfl,rfl⟩|(simp;omega)|(simp;done)))
    refine bn rfl (ih x.fArgs[i] (by omega) (by omega) bound o (1+l) j _ (by simp -implicitDefEqProofs (disch:=omega) only[go_sem];exact ZH _) (by omega) (by omega)) ?_;simp -implicitDefEqProofs (disch:=omega) only[go_sem,ah];exact fu 1 (by decide) (i+1,mX x.fArgs[i] bound o) (by simp only;omega) rfl rfl refs rfl ⟨by simp only;omega,by simp only;omega,p3⟩
  have hi:i=x.fArgs.length:=by omega
  rw[hi,List.drop_length] at p2 p3;rw[aC.fU] at p2;rw[ug] at p3;rw[<-p3] at fin;clear p3 refs
  refine bT (ι:=Nat×List (List UInt8)) zmx rfl [1,2,3,9] (fun y=>[.c (.d (.sl (bound.map encS))),.c (.bX (1+l,j) (y.2.map encS)),.c (.ptr (0,0) 0),.c (.d (.i .i64 y.1))]) (fun y=>[.box (x.enc.map .d)]::aX S (l,j) (.tok 1 (y.2.map encS)))
   (fun y=>y.1<=x.bE.length/\y.2.length+aZ.fU (x.bE.drop y.1)<=1073741824/\wH (x.bE.drop y.1) bound y.2=mX x bound out) (fun y=>x.bE.length-y.1) (0,o) rfl ?_ ⟨Nat.zero_le _,by simp only[List.drop_zero];omega,fin.symm⟩ ?_
  ·simp -implicitDefEqProofs (disch:=omega) only[go_sem]
  clear p1 p2 fin hal;rintro⟨i,o⟩ ⟨p1,p2,p3⟩
  have refs:∀a b,ny 1 (jC [1,2,3,9] [.c (.d (.sl (bound.map encS))),.c (.bX (1+l,j) a),.c (.ptr (0,0) 0),.c (.d (.i .i64 b))])=true:=fun a b=>by simp[ny,jC,V.refs,C.refs,oH];omega
  simp only at p1 p2 p3;simp -implicitDefEqProofs (disch:=omega) only[go_sem]
  with_reducible refine aD (fun hb=> ?_) (fun hb=> ?_)<;>have h:=hb<;>(try simp only[wf_preprocess] at h)<;>simp -implicitDefEqProofs (disch:=omega) only[go_sem,hb]<;>(repeat(with_reducible refine And.intro ?_ ?_;focus first|omega|rfl|assumption|exact⟨_,rfl,rfl⟩|(simp;omega)|(simp;done)))
  ·have hi:i<x.bE.length:=by omega
   have hs:=List.sizeOf_lt_of_mem (List.getElem_mem hi);have hs':=aZ.xB x.bE[i];have hz:=aC.ahS hi;have hz':=aZ.afU x.bE[i];rw[Xd hi,adj] at p3;rw[aZ.qK hi] at p2;have hlo:=yN x.bE[i].fBody (bound++x.bE[i].aO) o;refine⟨Jd,⟨_,rfl,rfl⟩,fun y hy=>(by cases hy),by omega,⟨by omega,hi⟩,Jd,⟨_,rfl,rfl⟩,by omega,?_⟩;rw[<-List.map_append];refine cu [true,false,true] rfl (ih x.bE[i].fBody (by omega) (by omega) (bound++x.bE[i].aO) o (1+l) j _ (by simp -implicitDefEqProofs (disch:=omega) only[go_sem];exact ZH _) (by omega) (by simp only[List.length_append];omega)) ?_;simp -implicitDefEqProofs (disch:=omega) only[go_sem,ah];exact fu 1 (by decide) (i+1,mX x.bE[i].fBody (bound++x.bE[i].aO) o) (by simp only;omega) rfl rfl (refs _ _) rfl ⟨by simp only;omega,by simp only;omega,p3⟩
  ·have hi:i=x.bE.length:=by omega
   rw[hi,List.drop_length,wH] at p3;rw[<-p3];exact⟨rfl,rfl⟩
theorem KT(x:aC)(hsz:x.sz<=4194304):bq prog 189 [x.v] (.c (.d (.sl ((mX x [] []).map encS)))):=fun S=>by
 have hc:=aC.qw x
 have h0:∀S,cB prog 213 [x.v,.c (.d (.sl [])),.c (.bI [])] S (fun r S'=>r=.c (.d (.sl ((mX x [] []).map encS)))/\S'=S):=fun S=>by
  refine cB.ahk 2 (es:=[]) (aY:=1) rfl (by simp) (F5 _ x (Nat.lt_succ_self _) hsz [] [] 0 0 ([.tok 1 []]::S) rfl (by simp;omega) (by simp;omega)) ?_;rintro r fr S' ⟨rfl,h2⟩;injection h2 with h2 h3;exact⟨_,rfl,rfl,h3⟩
 refine zcx [.tmp 2] func189 ntmps189 ?_;simp -implicitDefEqProofs (disch:=omega) only[go_sem]
 (repeat(with_reducible refine And.intro ?_ ?_;focus first|omega|rfl|assumption|exact⟨_,rfl,rfl⟩|(simp;omega)|(simp;done)))
 refine cu [true,false,true] rfl (h0 _) ?_;simp -implicitDefEqProofs (disch:=omega) only[go_sem]
theorem aC.Je{x:aC}(h:x.sz<=4194304):x.bU.length<=4194304/\x.fName.length<=4194304/\x.fType.sz<=4194304/\x.fArgs.length<=4194304/\x.bE.length<=4194304:=by
 simp only[aC.sz,aC.aj,bF,bL,D.sz,List.length_map,ay.cK] at h;omega
theorem aC.ajQ{x:aC}{i:Nat}(hi:i<x.fArgs.length)(h:x.sz<=4194304):x.fArgs[i].sz<=4194304:=by
 have hx:x.fArgs[i].sz<=aI (x.fArgs.map aC.enc):=dV (List.mem_map_of_mem (List.getElem_mem hi));simp only[aC.sz,aC.aj,bF,bL,D.sz,List.length_map,ay.cK] at h;omega
theorem aC.ajR{x:aC}{i:Nat}(hi:i<x.bE.length)(h:x.sz<=4194304):x.bE[i].sz<=4194304:=by
 have hx:x.bE[i].sz<=aI (x.bE.map aZ.enc):=dV (List.mem_map_of_mem (List.getElem_mem hi));simp only[aC.sz,aC.aj,bF,bL,D.sz,List.length_map,ay.cK] at h;omega
theorem aZ.Je{x:aZ}(h:x.sz<=4194304):x.fK.length<=4194304/\x.aO.length<=4194304/\x.fBody.sz<=4194304:=by
 simp only[aZ.sz,aZ.aj,bF,bL,D.sz,List.length_map,aC.cK] at h;omega
theorem zk:∀n:Nat,∀x:aC,SizeOf.sizeOf x<n->∀y:aC,x.sz<=4194304->bq prog 208 [x.v,y.v] (.c (.d (.b (dec (x=y)))))
 |0=>fun x h=>by omega
 |n+1=>by
  have ih:=zk n;intro x hn y hsz S;have oF:=aC.kQ x;have KO:=aC.zP x;have hb0:=aC.Je hsz;refine zcx [.tmp 4] func208 ntmps208 ?_;simp -implicitDefEqProofs (disch:=omega) only[go_sem]
  with_reducible refine aD (fun hb=> ?_) (fun hb=> ?_)<;>have h:=hb<;>(try simp only[wf_preprocess] at h)<;>simp -implicitDefEqProofs (disch:=omega) only[go_sem,hb]<;>(repeat(with_reducible refine And.intro ?_ ?_;focus first|omega|rfl|assumption|exact⟨_,rfl,rfl⟩|(simp;omega)|(simp;done)))
  ·exact bO (bK (fun e=>h (by rw[e]))).symm
  have h1:=h
  with_reducible refine aD (fun hb=> ?_) (fun hb=> ?_)<;>have h:=hb<;>(try simp only[wf_preprocess] at h)<;>simp -implicitDefEqProofs (disch:=omega) only[go_sem,hb]<;>(repeat(with_reducible refine And.intro ?_ ?_;focus first|omega|rfl|assumption|exact⟨_,rfl,rfl⟩|(simp;omega)|(simp;done)))
  ·exact bO (bK (fun e=>h (by rw[e]))).symm
  have h2:=h
  with_reducible refine aD (fun hb=> ?_) (fun hb=> ?_)<;>have h:=hb<;>(try simp only[wf_preprocess] at h)<;>simp -implicitDefEqProofs (disch:=omega) only[go_sem,hb]<;>(repeat(with_reducible refine And.intro ?_ ?_;focus first|omega|rfl|assumption|exact⟨_,rfl,rfl⟩|(simp;omega)|(simp;done)))
  ·exact bO (bK (fun e=>h (by rw[e]))).symm
  have h3:=h
  with_reducible refine aD (fun hb=> ?_) (fun hb=> ?_)<;>have h:=hb<;>(try simp only[wf_preprocess] at h)<;>simp -implicitDefEqProofs (disch:=omega) only[go_sem,hb]<;>(repeat(with_reducible refine And.intro ?_ ?_;focus first|omega|rfl|assumption|exact⟨_,rfl,rfl⟩|(simp;omega)|(simp;done)))
  ·exact bO (bK (fun e=>h (by rw[e]))).symm
  have h4:=h;refine aB (Jc x.fType y.fType (by omega)) ?_;simp -implicitDefEqProofs (disch:=omega) only[go_sem]<;>(repeat(with_reducible refine And.intro ?_ ?_;focus first|omega|rfl|assumption|exact⟨_,rfl,rfl⟩|(simp;omega)|(simp;done)))
  with_reducible refine aD (fun hb=> ?_) (fun hb=> ?_)<;>have h:=hb<;>(try simp only[wf_preprocess] at h)<;>simp -implicitDefEqProofs (disch:=omega) only[go_sem,hb]<;>(repeat(with_reducible refine And.intro ?_ ?_;focus first|omega|rfl|assumption|exact⟨_,rfl,rfl⟩|(simp;omega)|(simp;done)))
  ·exact bO (bK (fun e=>h (by rw[e]))).symm
  have h5:=h
  with_reducible refine aD (fun hb=> ?_) (fun hb=> ?_)<;>have h:=hb<;>(try simp only[wf_preprocess] at h)<;>simp -implicitDefEqProofs (disch:=omega) only[go_sem,hb]<;>(repeat(with_reducible refine And.intro ?_ ?_;focus first|omega|rfl|assumption|exact⟨_,rfl,rfl⟩|(simp;omega)|(simp;done)))
  ·exact bO (bK (fun e=>h (by rw[e]))).symm
  have h6:x.fArgs.length=y.fArgs.length:=by omega
  with_reducible refine aD (fun hb=> ?_) (fun hb=> ?_)<;>have h:=hb<;>(try simp only[wf_preprocess] at h)<;>simp -implicitDefEqProofs (disch:=omega) only[go_sem,hb]<;>(repeat(with_reducible refine And.intro ?_ ?_;focus first|omega|rfl|assumption|exact⟨_,rfl,rfl⟩|(simp;omega)|(simp;done)))
  ·exact bO (bK (fun e=>h (by rw[e]))).symm
  have h7:x.bE.length=y.bE.length:=by omega
  refine bT (ι:=Nat) zmx rfl [2,3,5] (fun i=>[.c (.ptr (0,0) 0),.c (.ptr (0,1) 0),.c (.d (.i .i64 i))]) (fun _=>[.box (x.enc.map .d),.box (y.enc.map .d)]::S)
   (fun i=>i<=x.fArgs.length/\∀j,j<i->x.fArgs[j]? =y.fArgs[j]?) (fun i=>x.fArgs.length-i) 0 rfl ?_ ⟨Nat.zero_le _,fun j h=>by omega⟩ ?_
  ·simp -implicitDefEqProofs (disch:=omega) only[go_sem]
  rintro i ⟨p1,p2⟩;simp -implicitDefEqProofs (disch:=omega) only[go_sem]
  with_reducible refine aD (fun hb=> ?_) (fun hb=> ?_)<;>have h:=hb<;>(try simp only[wf_preprocess] at h)<;>simp -implicitDefEqProofs (disch:=omega) only[go_sem,hb]<;>(repeat(with_reducible refine And.intro ?_ ?_;focus first|omega|rfl|assumption|exact⟨_,rfl,rfl⟩|(simp;omega)|(simp;done)))
  ·have hi:i<x.fArgs.length:=by omega
   have hi':i<y.fArgs.length:=by omega
   (repeat(with_reducible refine And.intro ?_ ?_;focus first|omega|rfl|assumption|exact⟨_,rfl,rfl⟩|(simp;omega)|(simp;done)))
   refine aB (ih x.fArgs[i] (by have:=List.sizeOf_lt_of_mem (List.getElem_mem hi);omega) y.fArgs[i] (aC.ajQ hi hsz)) ?_;simp -implicitDefEqProofs (disch:=omega) only[go_sem]<;>(repeat(with_reducible refine And.intro ?_ ?_;focus first|omega|rfl|assumption|exact⟨_,rfl,rfl⟩|(simp;omega)|(simp;done)))
   with_reducible refine aD (fun hb=> ?_) (fun hb=> ?_)<;>have h:=hb<;>(try simp only[wf_preprocess] at h)<;>simp -implicitDefEqProofs (disch:=omega) only[go_sem,hb]<;>(repeat(with_reducible refine And.intro ?_ ?_;focus first|omega|rfl|assumption|exact⟨_,rfl,rfl⟩|(simp;omega)|(simp;done)))
   ·exact bO (bK (fun e=>h (by simp only[e]))).symm
   refine dG (i+1) (by omega) rfl rfl ⟨by omega,fun j hj=> ?_⟩;by_cases e:j=i
   ·subst e;rw[List.getElem?_eq_getElem hi,List.getElem?_eq_getElem hi',h]
   ·exact p2 j (by omega)
  have hi:i=x.fArgs.length:=by omega
  have h8:x.fArgs=y.fArgs:=List.ext_getElem? fun j=>by
   by_cases hj:j<i
   ·exact p2 j hj
   ·rw[List.getElem?_eq_none (by omega),List.getElem?_eq_none (by omega)]
  refine bT (ι:=Nat) zmx rfl [2,3,6] (fun i=>[.c (.ptr (0,0) 0),.c (.ptr (0,1) 0),.c (.d (.i .i64 i))]) (fun _=>[.box (x.enc.map .d),.box (y.enc.map .d)]::S)
   (fun i=>i<=x.bE.length/\∀j,j<i->x.bE[j]? =y.bE[j]?) (fun i=>x.bE.length-i) 0 rfl ?_ ⟨Nat.zero_le _,fun j h=>by omega⟩ ?_
  ·simp -implicitDefEqProofs (disch:=omega) only[go_sem]
  clear p1 p2 hi hb h;clear i;rintro i ⟨p1,p2⟩;simp -implicitDefEqProofs (disch:=omega) only[go_sem]
  with_reducible refine aD (fun hb=> ?_) (fun hb=> ?_)<;>have h:=hb<;>(try simp only[wf_preprocess] at h)<;>simp -implicitDefEqProofs (disch:=omega) only[go_sem,hb]<;>(repeat(with_reducible refine And.intro ?_ ?_;focus first|omega|rfl|assumption|exact⟨_,rfl,rfl⟩|(simp;omega)|(simp;done)))
  ·have hi:i<x.bE.length:=by omega
   have hi':i<y.bE.length:=by omega
   have hs:=List.sizeOf_lt_of_mem (List.getElem_mem hi);have hz:=aZ.Je (aC.ajR hi hsz);have amY:=aZ.xB x.bE[i]
   (repeat(with_reducible refine And.intro ?_ ?_;focus first|omega|rfl|assumption|exact⟨_,rfl,rfl⟩|(simp;omega)|(simp;done)))
   with_reducible refine aD (fun hb=> ?_) (fun hb=> ?_)<;>have h:=hb<;>(try simp only[wf_preprocess] at h)<;>simp -implicitDefEqProofs (disch:=omega) only[go_sem,hb]<;>(repeat(with_reducible refine And.intro ?_ ?_;focus first|omega|rfl|assumption|exact⟨_,rfl,rfl⟩|(simp;omega)|(simp;done)))
   ·exact bO (bK (fun e=>h (by simp only[e]))).symm
   have k1:=h
   (repeat(with_reducible refine And.intro ?_ ?_;focus first|omega|rfl|assumption|exact⟨_,rfl,rfl⟩|(simp;omega)|(simp;done)))
   refine aB (SY x.bE[i].aO y.bE[i].aO (by omega)) ?_;simp -implicitDefEqProofs (disch:=omega) only[go_sem]<;>(repeat(with_reducible refine And.intro ?_ ?_;focus first|omega|rfl|assumption|exact⟨_,rfl,rfl⟩|(simp;omega)|(simp;done)))
   with_reducible refine aD (fun hb=> ?_) (fun hb=> ?_)<;>have h:=hb<;>(try simp only[wf_preprocess] at h)<;>simp -implicitDefEqProofs (disch:=omega) only[go_sem,hb]<;>(repeat(with_reducible refine And.intro ?_ ?_;focus first|omega|rfl|assumption|exact⟨_,rfl,rfl⟩|(simp;omega)|(simp;done)))
   ·exact bO (bK (fun e=>h (by simp only[e]))).symm
   have k2:=h
   (repeat(with_reducible refine And.intro ?_ ?_;focus first|omega|rfl|assumption|exact⟨_,rfl,rfl⟩|(simp;omega)|(simp;done)))
   refine aB (ih x.bE[i].fBody (by omega) y.bE[i].fBody (by omega)) ?_;simp -implicitDefEqProofs (disch:=omega) only[go_sem]<;>(repeat(with_reducible refine And.intro ?_ ?_;focus first|omega|rfl|assumption|exact⟨_,rfl,rfl⟩|(simp;omega)|(simp;done)))
   with_reducible refine aD (fun hb=> ?_) (fun hb=> ?_)<;>have h:=hb<;>(try simp only[wf_preprocess] at h)<;>simp -implicitDefEqProofs (disch:=omega) only[go_sem,hb]<;>(repeat(with_reducible refine And.intro ?_ ?_;focus first|omega|rfl|assumption|exact⟨_,rfl,rfl⟩|(simp;omega)|(simp;done)))
   ·exact bO (bK (fun e=>h (by simp only[e]))).symm
   have k3:=h;refine dG (i+1) (by omega) rfl rfl ⟨by omega,fun j hj=> ?_⟩;by_cases e:j=i
   ·subst e;rw[List.getElem?_eq_getElem hi,List.getElem?_eq_getElem hi',aZ.ext k1 k2 k3]
   ·exact p2 j (by omega)
  ·have hi:i=x.bE.length:=by omega
   have h9:x.bE=y.bE:=List.ext_getElem? fun j=>by
    by_cases hj:j<i
    ·exact p2 j hj
    ·rw[List.getElem?_eq_none (by omega),List.getElem?_eq_none (by omega)]
   exact bO (dQ (aC.ext h1 h2 h3 h4 h5 h8 h9)).symm
theorem Jf(x y:aC)(h:x.sz<=4194304):bq prog 208 [x.v,y.v] (.c (.d (.b (dec (x=y))))):=zk _ x (Nat.lt_succ_self _) y h
theorem Df:∀n:Nat,∀t:ay,SizeOf.sizeOf t<n->t.sz<=4194304->∀v:List UInt8,bq prog 188 [t.v,.c (.d (.s v))] (.c (.d (.i .i64 (nY v t))))
 |0=>fun t h=>by omega
 |n+1=>by
  have ih:=Df n;intro t hn hsz v S;have oF:=ay.kQ t;have hts:=QB hsz;have hcl:=ZF v t;have hcn:=qw t;have he:=ZE v t;refine zcx [.tmp 4] func188 ntmps188 ?_;simp -implicitDefEqProofs (disch:=omega) only[go_sem]
  repeat' (first|(with_reducible refine aD (fun hb=> ?_) (fun hb=> ?_)<;>have h:=hb<;>(try simp only[wf_preprocess] at h)<;>simp -implicitDefEqProofs (disch:=omega) only[go_sem,hb]<;>(repeat(with_reducible refine And.intro ?_ ?_;focus first|omega|rfl|assumption|exact⟨_,rfl,rfl⟩|(simp;omega)|(simp;done)))))
  all_goals first
   |(have hc:nY v t=1+uf v t.fArgs:=by rw[he,if_pos (by simp only[Kn,decide_eq_true_eq];exact⟨by assumption,by assumption⟩)])
   |(have hc:nY v t=0+uf v t.fArgs:=by rw[he,if_neg (by simp only[Kn,decide_eq_true_eq];exact fun x=>by have:=x.1;have:=x.2;contradiction)])
  all_goals
   refine bT (ι:=Nat×Nat) zmx rfl [1,2,5,6] (fun y=>[.c (.d (.s v)),.c (.ptr (0,0) 0),.c (.d (.i .i64 y.2)),.c (.d (.i .i64 y.1))]) (fun _=>[.box [.d (.i .i64 t.aR),.d (.s t.fName),.d (.sl (t.fArgs.map ay.enc))]]::S)
    (fun y=>y.1<=t.fArgs.length/\nY v t=y.2+uf v (t.fArgs.drop y.1)) (fun y=>t.fArgs.length-y.1) (0,_) rfl rfl ⟨Nat.zero_le _,hc⟩ ?_
   rintro⟨i,c⟩ ⟨p1,p2⟩;simp only at p1 p2;simp -implicitDefEqProofs (disch:=omega) only[go_sem]
   with_reducible refine aD (fun hb=> ?_) (fun hb=> ?_)<;>have h:=hb<;>(try simp only[wf_preprocess] at h)<;>simp -implicitDefEqProofs (disch:=omega) only[go_sem,hb]<;>(repeat(with_reducible refine And.intro ?_ ?_;focus first|omega|rfl|assumption|exact⟨_,rfl,rfl⟩|(simp;omega)|(simp;done)))
   ·have hi:i<t.fArgs.length:=by omega
    rw[QA hi] at p2
    (repeat(with_reducible refine And.intro ?_ ?_;focus first|omega|rfl|assumption|exact⟨_,rfl,rfl⟩|(simp;omega)|(simp;done)))
    refine aB (ih t.fArgs[i] (by have:=List.sizeOf_lt_of_mem (List.getElem_mem hi);omega) (Mf hi hsz).1 v) ?_;simp -implicitDefEqProofs (disch:=omega) only[go_sem]<;>(repeat(with_reducible refine And.intro ?_ ?_;focus first|omega|rfl|assumption|exact⟨_,rfl,rfl⟩|(simp;omega)|(simp;done)));rw[show(c:Int)+(nY v t.fArgs[i]:Int)=((c+nY v t.fArgs[i]:Nat):Int) by omega];exact dG (i+1,c+nY v t.fArgs[i]) (by simp only;omega) rfl rfl ⟨by simp only;omega,by simp only;omega⟩
   ·have hi:i=t.fArgs.length:=by omega
    rw[hi,List.drop_length] at p2;have h0:uf v []=0:=rfl;exact int_eq (by omega)
theorem Ox(v:List UInt8)(t:ay)(hsz:t.sz<=4194304):bq prog 163 [.c (.d (.s v)),t.v] (.c (.d (.b (occurs v t)))):=fun S=>by
 refine zcx [.tmp 4] func163 ntmps163 ?_;simp -implicitDefEqProofs (disch:=omega) only[go_sem];refine aB (Df _ t (Nat.lt_succ_self _) hsz v) ?_;simp -implicitDefEqProofs (disch:=omega) only[go_sem]<;>(repeat(with_reducible refine And.intro ?_ ?_;focus first|omega|rfl|assumption|exact⟨_,rfl,rfl⟩|(simp;omega)|(simp;done)));exact bO (by unfold occurs;rw[Bool.eq_iff_iff];simp only[decide_eq_true_eq];omega)
def zeroE:aC:=.mk 0 [] [] 0 (.mk 0 [] []) [] []
def OO:List (List UInt8):=[[115,101,108,102]]
noncomputable def KU(vars:List (List UInt8))(e:aC):Bool:=vG e&&among (mX e [] []) vars
noncomputable def nA(vars:List (List UInt8))(e:aC):Bool:=iP vars&&KU vars e
noncomputable def uh(vars:List (List UInt8))(b:aM):Bool:=(validName b.bU&&qL b.fType)&&(!qy b.fType&&among (jO [] b.fType) vars)
noncomputable def rC(vars:List (List UInt8))(bs:List aM):Bool:=dec (bs.length<=4)&&bs.all (uh vars)
noncomputable def jS(g:aK):Bool:=
 validName g.fName&&(dec (g.bS.length<=4)&&(mJ OO g.bS&&(iI OO g.dB&&
  (if g.iy=true then dec (g.aO.length=g.bS.length+1)&&nA g.aO g.fBody else dec (g.aO.length=0)&&dec (g.fBody=zeroE)))))
theorem G7{xs:List ay}{t:ay}(h:t∈xs):t.sz<=aI (xs.map ay.enc):=dV (List.mem_map_of_mem h)
theorem xI{xs:List aM}{t:aM}(h:t∈xs):t.sz<=aI (xs.map aM.enc):=dV (List.mem_map_of_mem h)
theorem aK.sum(x:aK):x.fName.length+(x.bS.length+aI (x.bS.map ay.enc))+x.dB.sz+(x.aO.length+aI (x.aO.map encS))+x.fBody.sz<=x.sz:=by
 simp only[aK.sz,aK.aj,bF,bL,D.sz,List.length_map,ay.cK,aC.cK];omega
theorem aM.sum(x:aM):x.bU.length+x.fType.sz<=x.sz:=by
 simp only[aM.sz,aM.aj,bF,bL,D.sz,List.length_map,ay.cK];omega
theorem adk(e:aC)(h:e.sz<=4194304):(mX e [] []).length<=1073741824:=by
 have h1:=yN e [] [];have h2:=aC.qw e;simp at h1;omega
theorem Ik(vars:List (List UInt8))(t:ay):iI vars t=(qL t&&among (jO [] t) vars):=rfl
theorem Ee(vars:List (List UInt8))(e:aC)(hv:vars.length<=1073741824)(hsz:e.sz<=4194304):bq prog 165 [e.v,.c (.d (.sl (vars.map encS)))] (.c (.d (.b (KU vars e)))):=fun S=>by
 have hlen:=adk e hsz;refine zcx [.tmp 4] func165 ntmps165 ?_;simp -implicitDefEqProofs (disch:=omega) only[go_sem];refine aB (KT e hsz) ?_;simp -implicitDefEqProofs (disch:=omega) only[go_sem]<;>(repeat(with_reducible refine And.intro ?_ ?_;focus first|omega|rfl|assumption|exact⟨_,rfl,rfl⟩|(simp;omega)|(simp;done)));unfold KU;generalize mX e [] []=xs at hlen ⊢
 refine bT (ι:=Nat) zmx rfl [1,2,5,6] (fun i=>[.c (.d (.sl (vars.map encS))),.c (.ptr (0,0) 0),.c (.d (.sl (xs.map encS))),.c (.d (.i .i64 i))]) (fun _=>[.box (e.enc.map .d)]::S)
  (fun i=>i<=xs.length/\among (xs.drop i) vars=among xs vars) (fun i=>xs.length-i) 0 rfl ?_ ⟨Nat.zero_le _,rfl⟩ ?_
 ·simp -implicitDefEqProofs (disch:=omega) only[go_sem]
 rintro i ⟨p1,p2⟩;simp -implicitDefEqProofs (disch:=omega) only[go_sem,encS]
 with_reducible refine aD (fun hb=> ?_) (fun hb=> ?_)<;>have h:=hb<;>(try simp only[wf_preprocess] at h)<;>simp -implicitDefEqProofs (disch:=omega) only[go_sem,hb,encS]<;>(repeat(with_reducible refine And.intro ?_ ?_;focus first|omega|rfl|assumption|exact⟨_,rfl,rfl⟩|(simp;omega)|(simp;done)))
 ·have hi:i<xs.length:=by omega
  rw[List.drop_eq_getElem_cons hi] at p2;have p3:among xs vars=(dec (xs[i]∈vars)&&among (xs.drop (i+1)) vars):=p2.symm
  (repeat(with_reducible refine And.intro ?_ ?_;focus first|omega|rfl|assumption|exact⟨_,rfl,rfl⟩|(simp;omega)|(simp;done)))
  refine aB (nZ vars xs[i] hv) ?_;simp -implicitDefEqProofs (disch:=omega) only[go_sem]<;>(repeat(with_reducible refine And.intro ?_ ?_;focus first|omega|rfl|assumption|exact⟨_,rfl,rfl⟩|(simp;omega)|(simp;done)))
  with_reducible refine aD (fun hb=> ?_) (fun hb=> ?_)<;>have h:=hb<;>(try simp only[wf_preprocess] at h)<;>simp -implicitDefEqProofs (disch:=omega) only[go_sem,hb]<;>(repeat(with_reducible refine And.intro ?_ ?_;focus first|omega|rfl|assumption|exact⟨_,rfl,rfl⟩|(simp;omega)|(simp;done)))
  ·exact bO (by rw[p3,bK h];simp)
  ·exact dG (i+1) (by omega) rfl rfl ⟨by omega,by rw[p3,dQ h];rfl⟩
 ·rw[List.drop_of_length_le (by omega)] at p2;have p3:among xs vars=true:=p2.symm
  (repeat(with_reducible refine And.intro ?_ ?_;focus first|omega|rfl|assumption|exact⟨_,rfl,rfl⟩|(simp;omega)|(simp;done)))
  refine aB (Jb e hsz) ?_;simp -implicitDefEqProofs (disch:=omega) only[go_sem]<;>(repeat(with_reducible refine And.intro ?_ ?_;focus first|omega|rfl|assumption|exact⟨_,rfl,rfl⟩|(simp;omega)|(simp;done)));exact bO (by rw[p3];simp)
theorem Il(bs:List aM)(vars:List (List UInt8))(hl:bs.length<=1073741824)(hz:∀b∈bs,b.sz<=4194304)(hv:vars.length<=1073741824):bq prog 162 [.c (.d (.sl (bs.map aM.enc))),.c (.d (.sl (vars.map encS)))] (.c (.d (.b (rC vars bs)))):=fun S=>by
 refine zcx [.tmp 4] func162 ntmps162 ?_;simp -implicitDefEqProofs (disch:=omega) only[go_sem]
 refine bT (ι:=Nat) zmx rfl [0,1,5] (fun i=>[.c (.d (.sl (bs.map aM.enc))),.c (.d (.sl (vars.map encS))),.c (.d (.i .i64 i))]) (fun _=>[]::S)
  (fun i=>i<=bs.length/\(bs.drop i).all (uh vars)=bs.all (uh vars)) (fun i=>bs.length-i) 0 rfl rfl ⟨Nat.zero_le _,rfl⟩ ?_
 rintro i ⟨p1,p2⟩;simp -implicitDefEqProofs (disch:=omega) only[go_sem]
 with_reducible refine aD (fun hb=> ?_) (fun hb=> ?_)<;>have h:=hb<;>(try simp only[wf_preprocess] at h)<;>simp -implicitDefEqProofs (disch:=omega) only[go_sem,hb]<;>(repeat(with_reducible refine And.intro ?_ ?_;focus first|omega|rfl|assumption|exact⟨_,rfl,rfl⟩|(simp;omega)|(simp;done)))
 ·have hi:i<bs.length:=by omega
  have hb:=hz _ (List.getElem_mem hi);have hs:=aM.sum bs[i];rw[List.drop_eq_getElem_cons hi,List.all_cons] at p2;have no:uh vars bs[i]=false->V.c (.d (.b false))=V.c (.d (.b (rC vars bs))):=fun h=>bO (by unfold rC;rw[<-p2,h];simp)
  (repeat(with_reducible refine And.intro ?_ ?_;focus first|omega|rfl|assumption|exact⟨_,rfl,rfl⟩|(simp;omega)|(simp;done)))
  refine aB (Ht bs[i] (by omega) (by omega)) ?_;simp -implicitDefEqProofs (disch:=omega) only[go_sem]<;>(repeat(with_reducible refine And.intro ?_ ?_;focus first|omega|rfl|assumption|exact⟨_,rfl,rfl⟩|(simp;omega)|(simp;done)))
  with_reducible refine aD (fun hb=> ?_) (fun hb=> ?_)<;>have h:=hb<;>(try simp only[wf_preprocess] at h)<;>simp -implicitDefEqProofs (disch:=omega) only[go_sem,hb]<;>(repeat(with_reducible refine And.intro ?_ ?_;focus first|omega|rfl|assumption|exact⟨_,rfl,rfl⟩|(simp;omega)|(simp;done)))
  ·exact no (by unfold uh;rw[h];rfl)
  have h1:=h
  (repeat(with_reducible refine And.intro ?_ ?_;focus first|omega|rfl|assumption|exact⟨_,rfl,rfl⟩|(simp;omega)|(simp;done)))
  refine aB (ru bs[i].fType vars (by omega) hv) ?_;simp -implicitDefEqProofs (disch:=omega) only[go_sem]<;>(repeat(with_reducible refine And.intro ?_ ?_;focus first|omega|rfl|assumption|exact⟨_,rfl,rfl⟩|(simp;omega)|(simp;done)))
  with_reducible refine aD (fun hb=> ?_) (fun hb=> ?_)<;>have h:=hb<;>(try simp only[wf_preprocess] at h)<;>simp -implicitDefEqProofs (disch:=omega) only[go_sem,hb]<;>(repeat(with_reducible refine And.intro ?_ ?_;focus first|omega|rfl|assumption|exact⟨_,rfl,rfl⟩|(simp;omega)|(simp;done)))
  ·exact no (by unfold uh;rw[Ik] at h;rw[Bool.and_eq_true] at h1;rw[h1.2,Bool.true_and] at h;rw[h];simp)
  have h2:=h
  (repeat(with_reducible refine And.intro ?_ ?_;focus first|omega|rfl|assumption|exact⟨_,rfl,rfl⟩|(simp;omega)|(simp;done)))
  refine aB (CY bs[i].fType (by omega)) ?_;simp -implicitDefEqProofs (disch:=omega) only[go_sem]<;>(repeat(with_reducible refine And.intro ?_ ?_;focus first|omega|rfl|assumption|exact⟨_,rfl,rfl⟩|(simp;omega)|(simp;done)))
  with_reducible refine aD (fun hb=> ?_) (fun hb=> ?_)<;>have h:=hb<;>(try simp only[wf_preprocess] at h)<;>simp -implicitDefEqProofs (disch:=omega) only[go_sem,hb]<;>(repeat(with_reducible refine And.intro ?_ ?_;focus first|omega|rfl|assumption|exact⟨_,rfl,rfl⟩|(simp;omega)|(simp;done)))
  ·exact no (by unfold uh;rw[h];simp)
  have h3:=h;rw[Ik,Bool.and_eq_true] at h2;exact dG (i+1) (by omega) rfl rfl ⟨by omega,by rw[<-p2];unfold uh;rw[h1,h2.2,h3];rfl⟩
 ·rw[List.drop_of_length_le (by omega)] at p2;exact bO (by unfold rC;rw[<-p2,qY];simp only[List.all_nil,Bool.and_true];exact kP ⟨fun h=>by omega,fun h=>by omega⟩)
theorem Xf(e:aC)(hsz:e.sz<=4194304):bq prog 184 [e.v] (.c (.d (.b (dec (e=zeroE))))):=fun S=>by
 refine zcx [.tmp 2] func184 ntmps184 ?_;simp -implicitDefEqProofs (disch:=omega) only[go_sem];refine aB (Jf e zeroE hsz) ?_;simp -implicitDefEqProofs (disch:=omega) only[go_sem]
theorem Z7(g:aK)(hsz:g.sz<=4194304):bq prog 158 [g.v] (.c (.d (.b (jS g)))):=fun S=>by
 have hs:=aK.sum g
 have hT:∀t∈g.bS,t.sz<=4194304:=fun t ht=>by have:=G7 ht;omega
 have hV:∀s∈g.aO,s.length<=4194304:=fun s h=>by have:=yI h;omega
 refine zcx [.tmp 2] func158 ntmps158 ?_;simp -implicitDefEqProofs (disch:=omega) only[go_sem];refine aB (gM g.fName (by omega)) ?_;simp -implicitDefEqProofs (disch:=omega) only[go_sem]<;>(repeat(with_reducible refine And.intro ?_ ?_;focus first|omega|rfl|assumption|exact⟨_,rfl,rfl⟩|(simp;omega)|(simp;done)))
 with_reducible refine aD (fun hb=> ?_) (fun hb=> ?_)<;>have h:=hb<;>(try simp only[wf_preprocess] at h)<;>simp -implicitDefEqProofs (disch:=omega) only[go_sem,hb]<;>(repeat(with_reducible refine And.intro ?_ ?_;focus first|omega|rfl|assumption|exact⟨_,rfl,rfl⟩|(simp;omega)|(simp;done)))
 ·exact bO (by unfold jS;rw[h];rfl)
 have h1:=h
 with_reducible refine aD (fun hb=> ?_) (fun hb=> ?_)<;>have h:=hb<;>(try simp only[wf_preprocess] at h)<;>simp -implicitDefEqProofs (disch:=omega) only[go_sem,hb]<;>(repeat(with_reducible refine And.intro ?_ ?_;focus first|omega|rfl|assumption|exact⟨_,rfl,rfl⟩|(simp;omega)|(simp;done)))
 ·exact bO (by unfold jS;rw[bK (show ¬g.bS.length<=4 by omega)];simp)
 have h2:=h
 (repeat(with_reducible refine And.intro ?_ ?_;focus first|omega|rfl|assumption|exact⟨_,rfl,rfl⟩|(simp;omega)|(simp;done)))
 refine aB (Nk g.bS OO (by omega) hT (by decide)) ?_;simp -implicitDefEqProofs (disch:=omega) only[go_sem]
 with_reducible refine aD (fun hb=> ?_) (fun hb=> ?_)<;>have h:=hb<;>(try simp only[wf_preprocess] at h)<;>simp -implicitDefEqProofs (disch:=omega) only[go_sem,hb]<;>(repeat(with_reducible refine And.intro ?_ ?_;focus first|omega|rfl|assumption|exact⟨_,rfl,rfl⟩|(simp;omega)|(simp;done)))
 ·exact bO (by unfold jS;rw[h];simp)
 have h3:=h
 (repeat(with_reducible refine And.intro ?_ ?_;focus first|omega|rfl|assumption|exact⟨_,rfl,rfl⟩|(simp;omega)|(simp;done)))
 refine aB (ru g.dB OO (by omega) (by decide)) ?_;simp -implicitDefEqProofs (disch:=omega) only[go_sem]
 with_reducible refine aD (fun hb=> ?_) (fun hb=> ?_)<;>have h:=hb<;>(try simp only[wf_preprocess] at h)<;>simp -implicitDefEqProofs (disch:=omega) only[go_sem,hb]<;>(repeat(with_reducible refine And.intro ?_ ?_;focus first|omega|rfl|assumption|exact⟨_,rfl,rfl⟩|(simp;omega)|(simp;done)))
 ·exact bO (by unfold jS;rw[h];simp)
 have h4:=h
 with_reducible refine aD (fun hb=> ?_) (fun hb=> ?_)<;>have h:=hb<;>(try simp only[wf_preprocess] at h)<;>simp -implicitDefEqProofs (disch:=omega) only[go_sem,hb]<;>(repeat(with_reducible refine And.intro ?_ ?_;focus first|omega|rfl|assumption|exact⟨_,rfl,rfl⟩|(simp;omega)|(simp;done)))
 ·have h5:¬g.iy=true:=by rw[h];simp
  with_reducible refine aD (fun hb=> ?_) (fun hb=> ?_)<;>have h:=hb<;>(try simp only[wf_preprocess] at h)<;>simp -implicitDefEqProofs (disch:=omega) only[go_sem,hb]<;>(repeat(with_reducible refine And.intro ?_ ?_;focus first|omega|rfl|assumption|exact⟨_,rfl,rfl⟩|(simp;omega)|(simp;done)))
  ·refine aB (Xf g.fBody (by omega)) ?_;simp -implicitDefEqProofs (disch:=omega) only[go_sem]<;>(repeat(with_reducible refine And.intro ?_ ?_;focus first|omega|rfl|assumption|exact⟨_,rfl,rfl⟩|(simp;omega)|(simp;done)));exact bO (by unfold jS;rw[h1,h3,h4,if_neg h5,dQ (show g.bS.length<=4 by omega),dQ (show g.aO.length=0 by omega)];rfl)
  ·exact bO (by unfold jS;rw[if_neg h5,bK (show ¬g.aO.length=0 by omega)];simp)
 ·have h5:=h;refine aB (j6 g.aO 5 (by omega) hV) ?_;simp -implicitDefEqProofs (disch:=omega) only[go_sem]<;>(repeat(with_reducible refine And.intro ?_ ?_;focus first|omega|rfl|assumption|exact⟨_,rfl,rfl⟩|(simp;omega)|(simp;done)))
  with_reducible refine aD (fun hb=> ?_) (fun hb=> ?_)<;>have h:=hb<;>(try simp only[wf_preprocess] at h)<;>simp -implicitDefEqProofs (disch:=omega) only[go_sem,hb]<;>(repeat(with_reducible refine And.intro ?_ ?_;focus first|omega|rfl|assumption|exact⟨_,rfl,rfl⟩|(simp;omega)|(simp;done)))
  ·have h6:=h;rw[Bool.and_eq_true] at h6
   with_reducible refine aD (fun hb=> ?_) (fun hb=> ?_)<;>have h:=hb<;>(try simp only[wf_preprocess] at h)<;>simp -implicitDefEqProofs (disch:=omega) only[go_sem,hb]<;>(repeat(with_reducible refine And.intro ?_ ?_;focus first|omega|rfl|assumption|exact⟨_,rfl,rfl⟩|(simp;omega)|(simp;done)))
   ·refine aB (Ee g.aO g.fBody (by omega) (by omega)) ?_;simp -implicitDefEqProofs (disch:=omega) only[go_sem]<;>(repeat(with_reducible refine And.intro ?_ ?_;focus first|omega|rfl|assumption|exact⟨_,rfl,rfl⟩|(simp;omega)|(simp;done)));exact bO (by unfold jS nA;rw[h1,h3,h4,if_pos h5,h6.2,dQ (show g.bS.length<=4 by omega),dQ (show g.aO.length=g.bS.length+1 by omega)];rfl)
   ·exact bO (by unfold jS;rw[if_pos h5,bK (show ¬g.aO.length=g.bS.length+1 by omega)];simp)
  ·refine bO ?_;by_cases h7:g.aO.length=g.bS.length+1
   ·rw[dQ (by omega),Bool.true_and] at h
    unfold jS nA;rw[if_pos h5,h];simp
   ·unfold jS;rw[if_pos h5,bK h7];simp
def rU(f:bA):List (List UInt8):=f.bS.map dD.fName
def Q0(f:bA):List ay:=f.bS.map dD.fType
noncomputable def lY(f:bA):Bool:=
 validName f.fName&&(dec (f.aO.length<=3)&&(iP f.aO&&(rC f.aO f.dO&&(dec (f.bS.length<=5)&&(mJ f.aO (Q0 f)&&(iI f.aO f.dB&&nA (rU f) f.fBody))))))
theorem bA.sum(x:bA):x.fName.length+(x.aO.length+aI (x.aO.map encS))+(x.dO.length+aI (x.dO.map aM.enc))+(x.bS.length+aI (x.bS.map dD.enc))+x.dB.sz+x.fBody.sz<=x.sz:=by
 simp only[bA.sz,bA.aj,bF,bL,D.sz,List.length_map,ay.cK,aC.cK];omega
theorem dD.sum(x:dD):x.fName.length+x.fType.sz<=x.sz:=by
 simp only[dD.sz,dD.aj,bF,bL,D.sz,List.length_map,ay.cK];omega
theorem Uq{xs:List dD}{t:dD}(h:t∈xs):t.sz<=aI (xs.map dD.enc):=dV (List.mem_map_of_mem h)
theorem xJ(f:bA)(hsz:f.sz<=4194304):bq prog 126 [f.v] (.c (.d (.b (lY f)))):=fun S=>by
 have hs:=bA.sum f
 have hV:∀s∈f.aO,s.length<=4194304:=fun s h=>by have:=yI h;omega
 have hW:∀b∈f.dO,b.sz<=4194304:=fun b h=>by have:=xI h;omega
 have hP:∀p∈f.bS,p.sz<=4194304:=fun m h=>by have:=Uq h;omega
 have hpn:∀s∈rU f,s.length<=4194304:=fun t h=>by
  obtain⟨p,hp,e⟩:=List.mem_map.1 h;have:=hP p hp;have:=dD.sum p;rw[<-e];omega
 have hnl:(rU f).length=f.bS.length:=by simp[rU]
 have bad:∀i,∀hi:i<f.bS.length,iI f.aO f.bS[i].fType=false->V.c (.d (.b false))=V.c (.d (.b (lY f))):=fun i hi h=>bO (by
  have:mJ f.aO (Q0 f)=false:=Bool.eq_false_iff.2 fun hx=>by
   have:=List.all_eq_true.1 hx f.bS[i].fType (List.mem_map_of_mem (List.getElem_mem hi));rw[h] at this;cases this
  unfold lY
  rw[this];simp)
 refine zcx [.tmp 2] func126 ntmps126 ?_;simp -implicitDefEqProofs (disch:=omega) only[go_sem]
 (repeat(with_reducible refine And.intro ?_ ?_;focus first|omega|rfl|assumption|exact⟨_,rfl,rfl⟩|(simp;omega)|(simp;done)))
 refine lq 3 1 [] rfl (by simp) ?_
 refine bT (ι:=Nat×List (List UInt8)) zmx rfl [1,3,4] (fun y=>[.c (.ptr (0,0) 0),.c (.bX (0,1) (y.2.map encS)),.c (.d (.i .i64 y.1))]) (fun y=>[.box (f.enc.map .d),.tok 1 (y.2.map encS)]::S)
  (fun y=>y.1<=f.bS.length/\y.2=(rU f).take y.1/\∀j,∀hj:j<f.bS.length,j<y.1->iI f.aO f.bS[j].fType=true) (fun y=>f.bS.length-y.1) (0,[]) rfl ?_ ⟨Nat.zero_le _,rfl,fun j _ h=>by simp only at h;omega⟩ ?_
 ·simp -implicitDefEqProofs (disch:=omega) only[go_sem]
 rintro⟨i,names⟩ ⟨p1,p2,p3⟩;simp only at p1 p2 p3
 have pl:names.length<=f.bS.length:=by rw[p2];simp[rU];omega
 simp -implicitDefEqProofs (disch:=omega) only[go_sem]
 with_reducible refine aD (fun hb=> ?_) (fun hb=> ?_)<;>have h:=hb<;>(try simp only[wf_preprocess] at h)<;>simp -implicitDefEqProofs (disch:=omega) only[go_sem,hb]<;>(repeat(with_reducible refine And.intro ?_ ?_;focus first|omega|rfl|assumption|exact⟨_,rfl,rfl⟩|(simp;omega)|(simp;done)))
 ·have hi:i<f.bS.length:=by omega
  have hp:=hP _ (List.getElem_mem hi);have hps:=dD.sum f.bS[i]
  (repeat(with_reducible refine And.intro ?_ ?_;focus first|omega|rfl|assumption|exact⟨_,rfl,rfl⟩|(simp;omega)|(simp;done)))
  refine aB (ru f.bS[i].fType f.aO (by omega) (by omega)) ?_;simp -implicitDefEqProofs (disch:=omega) only[go_sem]<;>(repeat(with_reducible refine And.intro ?_ ?_;focus first|omega|rfl|assumption|exact⟨_,rfl,rfl⟩|(simp;omega)|(simp;done)))
  with_reducible refine aD (fun hb=> ?_) (fun hb=> ?_)<;>have h:=hb<;>(try simp only[wf_preprocess] at h)<;>simp -implicitDefEqProofs (disch:=omega) only[go_sem,hb]<;>(repeat(with_reducible refine And.intro ?_ ?_;focus first|omega|rfl|assumption|exact⟨_,rfl,rfl⟩|(simp;omega)|(simp;done)))
  ·exact bad i hi h
  have k3:=h
  (repeat(with_reducible refine And.intro ?_ ?_;focus first|omega|rfl|assumption|exact⟨_,rfl,rfl⟩|(simp;omega)|(simp;done)))
  rw[show List.map encS names++[[D.s f.bS[i].fName]]=List.map encS (names++[f.bS[i].fName]) by simp[encS]]
  exact dG (i+1,names++[f.bS[i].fName]) (by simp only;omega) rfl rfl ⟨by simp only;omega,by simp only;rw[p2,nP (by simpa [rU] using hi)];simp[rU],fun j hj hji=>by
   simp only at hji;by_cases e:j=i
   ·subst e;exact k3
   ·exact p3 j hj (by omega)⟩
 have hi:i=f.bS.length:=by omega
 have hn:names=rU f:=by rw[p2,List.take_of_length_le (by simp[rU];omega)]
 have hall:mJ f.aO (Q0 f)=true:=List.all_eq_true.2 fun c hc=>by
  obtain⟨p,hp,e⟩:=List.mem_map.1 hc;obtain⟨j,hj,e'⟩:=List.getElem_of_mem hp;rw[<-e,<-e'];exact p3 j hj (by omega)
 clear p2 p3 bad;subst hn
 repeat' (first
  |with_reducible refine aD (fun hb=> ?_) (fun hb=> ?_)<;>have h:=hb<;>(try simp only[wf_preprocess] at h)<;>simp -implicitDefEqProofs (disch:=omega) only[go_sem,hb]<;>(repeat(with_reducible refine And.intro ?_ ?_;focus first|omega|rfl|assumption|exact⟨_,rfl,rfl⟩|(simp;omega)|(simp;done)))
  |((with_reducible show iJ _ _ 77 _ _ _ _);refine aB (gM f.fName (by omega)) ?_;simp -implicitDefEqProofs (disch:=omega) only[go_sem])
  |((with_reducible show iJ _ _ 78 _ _ _ _);refine aB (j6 f.aO 3 (by omega) hV) ?_;simp -implicitDefEqProofs (disch:=omega) only[go_sem])
  |((with_reducible show iJ _ _ 162 _ _ _ _);refine aB (Il f.dO f.aO (by omega) hW (by omega)) ?_;simp -implicitDefEqProofs (disch:=omega) only[go_sem])
  |((with_reducible show iJ _ _ 78 _ _ _ _);refine aB (j6 (rU f) 5 (by omega) hpn) ?_;simp -implicitDefEqProofs (disch:=omega) only[go_sem])
  |((with_reducible show iJ _ _ 160 _ _ _ _);refine aB (ru f.dB f.aO (by omega) (by omega)) ?_;simp -implicitDefEqProofs (disch:=omega) only[go_sem])
  |((with_reducible show iJ _ _ 165 _ _ _ _);refine aB (Ee (rU f) f.fBody (by omega) (by omega)) ?_;simp -implicitDefEqProofs (disch:=omega) only[go_sem])
  |(refine bO ?_;unfold lY nA;grind [gL,j5,dQ,bK]))
def Q5(n:Nat)(s:St):St:=match s.st with
 |(.seed _::own)::Ω=>⟨s.tm,(.seed n::own)::Ω⟩
 |_=>s
theorem Tm{n m:Nat}{tm:List (Nat×V)}{own:List Obj}{Ω:Store}:Q5 n ⟨tm,(.seed m::own)::Ω⟩=⟨tm,(.seed n::own)::Ω⟩:=rfl
def ajS(j p n:Nat)(s:St):St:=Q5 n (OJ j p s)
attribute [go_sem] ajS Tm
def F6:List UInt8:=[102,110]
def wI(b:aM):au:=d9 [bN b.bU,dR b.fType]
def uR(b:dD):au:=d9 [bN b.fName,dR b.fType]
def NA(f:bA):au:=d9 [bN F6,bN f.fName,d9 (dh f.aO),d9 (f.dO.map wI),d9 (f.bS.map uR),dR f.dB,fO f.fBody]
noncomputable def Q6(f:bA):au:=tJ (lY f) (NA f)
theorem afV{f:bA}(h:f.sz<=1048576):(Q6 f).sz<=1048576:=Nat.le_trans (G5 _ _) (by decide)
theorem ahT(b:aM):(wI b).sz<=14+16*b.sz:=by
 have:=yJ b.fType;have:=aM.sum b;rw[wI,iZ];simp[dI,iY];omega
theorem adl(b:dD):(uR b).sz<=14+16*b.sz:=by
 have:=yJ b.fType;have:=dD.sum b;rw[uR,iZ];simp[dI,iY];omega
theorem Mr:∀l:List aM,dI (l.map wI)<=14*l.length+16*aI (l.map aM.enc)
 |[]=>by simp[dI]
 |c::l=>by
  have h1:=ahT c;have h2:=Mr l;rw[List.map_cons,dI,List.map_cons,aI,List.length_cons];simp only[aM.sz] at h1;omega
theorem NC:∀l:List dD,dI (l.map uR)<=14*l.length+16*aI (l.map dD.enc)
 |[]=>by simp[dI]
 |c::l=>by
  have h1:=adl c;have h2:=NC l;rw[List.map_cons,dI,List.map_cons,aI,List.length_cons];simp only[dD.sz] at h1;omega
theorem ahU{f:bA}(hok:iW f.fBody=true):(NA f).sz<=60+32*f.sz:=by
 have h1:=Mr f.dO;have h2:=NC f.bS;have h3:=yJ f.dB;have h4:=F3 f.fBody hok;have h5:=bA.sum f;rw[dZ] at h5;rw[NA,iZ];simp[dI,iY,iZ,kS,o9,F6];omega
theorem zl{vars:List (List UInt8)}{bs:List aM}(h:rC vars bs=true):∀b∈bs,formed b.fType=true:=fun b hb=>by
 unfold rC at h;rw[Bool.and_eq_true] at h;have h2:=List.all_eq_true.1 h.2 b hb;unfold uh at h2;simp only[Bool.and_eq_true] at h2;exact wB h2.1.2
theorem sM{vars:List (List UInt8)}{t:ay}(h:iI vars t=true):formed t=true:=by
 unfold iI at h;rw[Bool.and_eq_true] at h;exact wB h.1
theorem BF{vars:List (List UInt8)}{e:aC}(h:nA vars e=true):iW e=true:=by
 unfold nA KU at h;simp only[Bool.and_eq_true] at h;exact QY h.2.1
theorem EM{f:bA}(h:lY f=true):(∀b∈f.dO,formed b.fType=true)/\(∀q∈f.bS,formed q.fType=true)/\formed f.dB=true/\iW f.fBody=true:=by
 unfold lY at h;simp only[Bool.and_eq_true] at h;obtain⟨_,_,_,h1,_,h2,h3,h4⟩:=h;exact⟨zl h1,fun q hq=>Ch.1 (u6 h2) _ (List.mem_map_of_mem hq),sM h3,BF h4⟩
theorem tT(xs:List aM)(hlen:xs.length<=4194304)(hsz:∀b∈xs,b.sz<=4194304):bq prog 272 [.c (.d (.sl (xs.map aM.enc)))] (.agg [.d (.s []),.d (.sl ((xs.map wI).map au.enc))]):=fun S=>by
 obtain⟨T,hT⟩:∃T:Nat->List (List D),T=fun i=>((xs.map wI).take i).map au.enc:=⟨_,rfl⟩
 have hT0:T 0=[]:=by rw[hT];rfl
 have iE:∀i,(T i).length<=i:=fun i=>by
  rw[hT];simp only[List.length_map];exact List.length_take_le _ _
 have hTs:∀i (hi:i<xs.length),T i++[[.s [],.sl [[.s xs[i].bU,.sl []],[.s (dR xs[i].fType).bC,.sl ((dR xs[i].fType).aA.map au.enc)]]]]=T (i+1):=fun i hi=>by
  have:=iN (base:=[]) (l:=xs.map wI) (i:=i) (by rw[List.length_map];exact hi);rw[List.getElem_map,wI,lu,gZ,List.map_cons,List.map_cons,List.map_nil,eU,au.aj (dR xs[i].fType)] at this;rw[hT];exact this
 have hTe:T xs.length=(xs.map wI).map au.enc:=by
  rw[hT];simp only
  rw[List.take_of_length_le (by simp)]
 clear hT;refine zcx [.cell 2 202] func272 ntmps272 ?_;simp -implicitDefEqProofs (disch:=omega) only[go_sem];refine Bq 1 1 2 [] [.d (.s []),.bI []] rfl rfl (by simp) ?_
 refine bT (ι:=Nat) zmx rfl [0,2,3,4] (fun i=>[.c (.d (.sl (xs.map aM.enc))),.c (.ptr (0,0) 0),.c (.ptr (0,1) 0),.c (.d (.i .i64 i))])
  (fun i=>[.box [.d (.s []),.bI []],.box [.d (.s []),.bX (0,2) (T i)],.tok 2 (T i)]::S)
  (fun i=>i<=xs.length) (fun i=>xs.length-i) 0 rfl (by rw[hT0];rfl) (Nat.zero_le _) ?_
 intro i hi;have hl:=iE i;simp -implicitDefEqProofs (disch:=omega) only[go_sem]
 with_reducible refine aD (fun hb=> ?_) (fun hb=> ?_)<;>have h:=hb<;>(try simp only[wf_preprocess] at h)<;>simp -implicitDefEqProofs (disch:=omega) only[go_sem,hb]<;>(repeat(with_reducible refine And.intro ?_ ?_;focus first|omega|rfl|assumption|exact⟨_,rfl,rfl⟩|(simp;omega)|(simp;done)))
 ·have hi':i<xs.length:=by omega
  have hm:=List.getElem_mem hi';have hcz:=hsz _ hm;have hce:=aM.sum xs[i];have hs:=hTs i hi'
  (repeat(with_reducible refine And.intro ?_ ?_;focus first|omega|rfl|assumption|exact⟨_,rfl,rfl⟩|(simp;omega)|(simp;done)))
  refine aB (bQ _) ?_;simp -implicitDefEqProofs (disch:=omega) only[go_sem]
  (repeat(with_reducible refine And.intro ?_ ?_;focus first|omega|rfl|assumption|exact⟨_,rfl,rfl⟩|(simp;omega)|(simp;done)))
  refine aB (jX xs[i].fType (by omega)) ?_;simp -implicitDefEqProofs (disch:=omega) only[go_sem]
  (repeat(with_reducible refine And.intro ?_ ?_;focus first|omega|rfl|assumption|exact⟨_,rfl,rfl⟩|(simp;omega)|(simp;done)))
  refine aB (kY _ (by simp) (by simp)) ?_;simp -implicitDefEqProofs (disch:=omega) only[go_sem]
  (repeat(with_reducible refine And.intro ?_ ?_;focus first|omega|rfl|assumption|exact⟨_,rfl,rfl⟩|(simp;omega)|(simp;done)))
  rw[hs];exact dG (i+1) (by omega) rfl rfl (by omega)
 ·have hi':i=xs.length:=by omega
  subst hi';rw[hTe]
theorem Z8(f:bA)(hsz:f.sz<=1048576):bq prog 258 [f.v] (Q6 f).v:=by
 unfold Q6
 cases hv:lY f with
 |false=>
  rw[tJ];refine bq.less (fun S=> ?_) (Da [] []);refine zcx [.cell 2 202] func258 ntmps258 ?_;simp -implicitDefEqProofs (disch:=omega) only[go_sem];refine aB (xJ f (by omega)) ?_;simp -implicitDefEqProofs (disch:=omega) only[go_sem,hv]
 |true=>
  intro S;have hdz:=bA.sum f;rw[dZ] at hdz;obtain⟨hf1,hf2,hf3,Im⟩:=EM hv;have hz:=ahU Im;obtain⟨T,hT⟩:∃T:Nat->List (List D),T=fun i=>((f.bS.map uR).take i).map au.enc:=⟨_,rfl⟩
  have hT0:T 0=[]:=by rw[hT];rfl
  have iE:∀i,(T i).length<=i:=fun i=>by
   rw[hT];simp only[List.length_map];exact List.length_take_le _ _
  have hTs:∀i (hi:i<f.bS.length),T i++[[.s [],.sl [[.s f.bS[i].fName,.sl []],[.s (dR f.bS[i].fType).bC,.sl ((dR f.bS[i].fType).aA.map au.enc)]]]]=T (i+1):=fun i hi=>by
   have:=iN (base:=[]) (l:=f.bS.map uR) (i:=i) (by rw[List.length_map];exact hi);rw[List.getElem_map,uR,lu,gZ,List.map_cons,List.map_cons,List.map_nil,eU,au.aj (dR f.bS[i].fType)] at this;rw[hT];exact this
  have hTe:T f.bS.length=(f.bS.map uR).map au.enc:=by
   rw[hT];simp only
   rw[List.take_of_length_le (by simp)]
  clear hT;refine zcx [.cell 2 202] func258 ntmps258 ?_;simp -implicitDefEqProofs (disch:=omega) only[go_sem];refine aB (xJ f (by omega)) ?_;simp -implicitDefEqProofs (disch:=omega) only[go_sem,hv];refine Bq 2 1 2 [] [.d (.s []),.bI []] rfl rfl (by simp) ?_
  refine bT (ι:=Nat) zmx rfl [1,2,3,4] (fun i=>[.c (.ptr (0,0) 0),.c (.ptr (0,1) 0),.c (.ptr (0,2) 0),.c (.d (.i .i64 i))])
   (fun i=>[.box [.d (.s f.fName),.d (.sl (f.aO.map encS)),.d (.sl (f.dO.map aM.enc)),.d (.sl (f.bS.map dD.enc)),.d (.i .i64 f.dB.aR),.d (.s f.dB.fName),.d (.sl (f.dB.fArgs.map ay.enc)),.d (.i .i64 f.fBody.aR),.d (.s f.fBody.bU),.d (.s f.fBody.fName),.d (.i .i64 f.fBody.fN),.d (.i .i64 f.fBody.fType.aR),.d (.s f.fBody.fType.fName),.d (.sl (f.fBody.fType.fArgs.map ay.enc)),.d (.sl (f.fBody.fArgs.map aC.enc)),.d (.sl (f.fBody.bE.map aZ.enc))],.box [.d (.s []),.bI []],.box [.d (.s []),.bX (0,3) (T i)],.tok 2 (T i)]::S)
   (fun i=>i<=f.bS.length) (fun i=>f.bS.length-i) 0 rfl (by rw[hT0];rfl) (Nat.zero_le _) ?_
  intro i hi;have hl:=iE i;simp -implicitDefEqProofs (disch:=omega) only[go_sem]
  with_reducible refine aD (fun hb=> ?_) (fun hb=> ?_)<;>have h:=hb<;>(try simp only[wf_preprocess] at h)<;>simp -implicitDefEqProofs (disch:=omega) only[go_sem,hb]<;>(repeat(with_reducible refine And.intro ?_ ?_;focus first|omega|rfl|assumption|exact⟨_,rfl,rfl⟩|(simp;omega)|(simp;done)))
  ·have hi':i<f.bS.length:=by omega
   have hm:=List.getElem_mem hi';have hcz:=Uq hm;have hce:=dD.sum f.bS[i];have hs:=hTs i hi'
   (repeat(with_reducible refine And.intro ?_ ?_;focus first|omega|rfl|assumption|exact⟨_,rfl,rfl⟩|(simp;omega)|(simp;done)))
   refine aB (bQ _) ?_;simp -implicitDefEqProofs (disch:=omega) only[go_sem]
   (repeat(with_reducible refine And.intro ?_ ?_;focus first|omega|rfl|assumption|exact⟨_,rfl,rfl⟩|(simp;omega)|(simp;done)))
   refine aB (jX f.bS[i].fType (by omega)) ?_;simp -implicitDefEqProofs (disch:=omega) only[go_sem]
   (repeat(with_reducible refine And.intro ?_ ?_;focus first|omega|rfl|assumption|exact⟨_,rfl,rfl⟩|(simp;omega)|(simp;done)))
   refine aB (kY _ (by simp) (by simp)) ?_;simp -implicitDefEqProofs (disch:=omega) only[go_sem]
   (repeat(with_reducible refine And.intro ?_ ?_;focus first|omega|rfl|assumption|exact⟨_,rfl,rfl⟩|(simp;omega)|(simp;done)))
   rw[hs];exact dG (i+1) (by omega) rfl rfl (by omega)
  ·have hi':i=f.bS.length:=by omega
   subst hi';rw[hTe];refine aB (bQ _) ?_;simp -implicitDefEqProofs (disch:=omega) only[go_sem];refine aB (bQ _) ?_;simp -implicitDefEqProofs (disch:=omega) only[go_sem];refine aB (dX f.aO (by omega)) ?_;simp -implicitDefEqProofs (disch:=omega) only[go_sem];refine aB (tT f.dO (by omega) (fun b hb=>by have:=xI hb;omega)) ?_;simp -implicitDefEqProofs (disch:=omega) only[go_sem];refine aB (jX f.dB (by omega)) ?_;simp -implicitDefEqProofs (disch:=omega) only[go_sem];refine aB (qN f.fBody Im (by omega)) ?_;simp -implicitDefEqProofs (disch:=omega) only[go_sem]
   (repeat(with_reducible refine And.intro ?_ ?_;focus first|omega|rfl|assumption|exact⟨_,rfl,rfl⟩|(simp;omega)|(simp;done)))
   refine aB (kY _ (by simp) (by simp)) ?_;simp -implicitDefEqProofs (disch:=omega) only[go_sem]
   (repeat(with_reducible refine And.intro ?_ ?_;focus first|omega|rfl|assumption|exact⟨_,rfl,rfl⟩|(simp;omega)|(simp;done)))
   have hI:=pE true (NA f) (by omega)
   have hx:(NA f).v=V.agg [.d (.s []),.d (.sl [[.s [102,110],.sl []],[.s f.fName,.sl []],[.s [],.sl ((dh f.aO).map au.enc)],[.s [],.sl ((f.dO.map wI).map au.enc)],[.s [],.sl ((f.bS.map uR).map au.enc)],[.s (dR f.dB).bC,.sl ((dR f.dB).aA.map au.enc)],[.s (fO f.fBody).bC,.sl ((fO f.fBody).aA.map au.enc)]])]:=by
    rw[NA];show V.agg [.d (.s []),.d (.sl (List.map au.enc _))]=_;simp only[gZ,List.map_cons,List.map_nil,eU,jf,au.aj (dR f.dB),au.aj (fO f.fBody),F6]
   rw[hx] at hI;refine aB hI ?_;simp -implicitDefEqProofs (disch:=omega) only[go_sem]
end Go.Ab