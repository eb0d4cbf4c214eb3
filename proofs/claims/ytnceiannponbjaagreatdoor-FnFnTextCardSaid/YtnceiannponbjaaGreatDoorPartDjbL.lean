/-
  SEVERAL TEXTS IN ONE (merged by program): contracts and models, each with its own heading.
-/
import Derived.Test.YtnceiannponbjaaGreatDoorPartDjbJ
import Derived.Test.YtnceiannponbjaaGreatDoorPartDjbK
open Go.Proofs Go.Proofs.Tryz
set_option linter.unusedSimpArgs false
set_option linter.unusedVariables false
set_option maxRecDepth 4000
namespace Go.Ab
theorem mJ(hd:List ah)(xs:List au)(S:Store)(hA:∀t∈xs,aG prog 42 [t.v] (eB t).v)(hl:xs.length<=4194304)(hh:hd.length<=4):bF prog 104 [.c (.bE (hd.map ah.enc)),.c (.d (.sl (xs.map au.enc)))] S
 (fun r S'=>r=.agg [.d (.s []),.d (.sl ((hd++xs.map eB).map ah.enc))]/\S'=S):=by
 obtain⟨T,hT⟩:∃T:Nat->List (List D),T=fun i=>(hd++(xs.map eB).take i).map ah.enc:=⟨_,rfl⟩
 have hT0:T 0=hd.map ah.enc:=by rw[hT];simp only[List.take_zero,List.append_nil]
 have nN:∀i,(T i).length<=i+hd.length:=fun i=>by
  rw[hT];simp only[List.length_map,List.length_append];have:=List.length_take_le i (xs.map eB);omega
 have hTs:∀i (hi:i<xs.length),T i++[[.s (eB xs[i]).aM,.sl ((eB xs[i]).aj.map ah.enc)]]=T (i+1):=fun i hi=>by
  have:=nL (base:=hd) (l:=xs.map eB) (i:=i) (by rw[List.length_map];exact hi);rw[List.getElem_map] at this;rw[hT];exact this
 have hTe:T xs.length=(hd++xs.map eB).map ah.enc:=by rw[hT];simp only;rw[List.take_of_length_le (by simp)]
 clear hT;rw[<-hT0];rw[<-hTe];refine zcx [.cell 4 39] func104 ntmps104 ?_;simp -implicitDefEqProofs (disch:=omega) only[go_sem];refine wT 1 1 2 (T 0) [.d (.s []),.bE (T 0)] rfl rfl (by rw[hT0];exact jN) ?_
 refine bC (ι:=Nat) zmx rfl [1,4,5,6] (fun i=>[.c (.d (.sl (xs.map au.enc))),.c (.ptr (0,0) 0),.c (.ptr (0,1) 0),.c (.d (.i .i64 i))])
  (fun i=>[.box [.d (.s []),.bE []],.box [.d (.s []),.bL (0,2) (T i)],.tok 2 (T i)]::S)
  (fun i=>i<=xs.length) (fun i=>xs.length-i) 0 rfl rfl (Nat.zero_le _) ?_
 intro i hi;have hl:=nN i;simp -implicitDefEqProofs (disch:=omega) only[go_sem]
 with_reducible refine aA (fun hb=> ?_) (fun hb=> ?_)<;>have h:=hb<;>(try simp only[wf_preprocess] at h)<;>simp -implicitDefEqProofs (disch:=omega) only[go_sem,hb]<;>(repeat(with_reducible refine And.intro ?_ ?_;focus first|omega|rfl|assumption|exact⟨_,rfl,rfl⟩|(simp;omega)|(simp;done)))
 ·have hi':i<xs.length:=by omega
  have hs:=hTs i hi'
  (repeat(with_reducible refine And.intro ?_ ?_;focus first|omega|rfl|assumption|exact⟨_,rfl,rfl⟩|(simp;omega)|(simp;done)))
  refine ay (hA xs[i] (List.getElem_mem hi')) ?_;simp -implicitDefEqProofs (disch:=omega) only[go_sem]
  (repeat(with_reducible refine And.intro ?_ ?_;focus first|omega|rfl|assumption|exact⟨_,rfl,rfl⟩|(simp;omega)|(simp;done)))
  rw[hs];exact cO (i+1) (by omega) rfl rfl (by omega)
 ·have hi':i=xs.length:=by omega
  subst hi';rfl
theorem Qb(hd:List ah)(xs:List au)(bD:List Ab.Obj)(Ω:Store)(hA:∀t∈xs,aG prog 42 [t.v] (eB t).v)(hl:xs.length<=4194304)(hh:hd.length<=4):bF prog 104 [.c (.bE (hd.map ah.enc)),.c (.d (.sl (xs.map au.enc)))] (bD::Ω)
 (fun r S'=>r=.agg [.d (.s []),.bL (0,bD.length+2) ((hd++xs.map eB).map ah.enc)]/\S'=(bD++[.box [.d (.s []),.bL (0,bD.length+2) ((hd++xs.map eB).map ah.enc)],.box [.d (.s []),.bL (0,bD.length+2) ((hd++xs.map eB).map ah.enc)],.tok 2 ((hd++xs.map eB).map ah.enc)])::Ω):=by
 obtain⟨T,hT⟩:∃T:Nat->List (List D),T=fun i=>(hd++(xs.map eB).take i).map ah.enc:=⟨_,rfl⟩
 have hT0:T 0=hd.map ah.enc:=by rw[hT];simp only[List.take_zero,List.append_nil]
 have nN:∀i,(T i).length<=i+hd.length:=fun i=>by
  rw[hT];simp only[List.length_map,List.length_append];have:=List.length_take_le i (xs.map eB);omega
 have hTs:∀i (hi:i<xs.length),T i++[[.s (eB xs[i]).aM,.sl ((eB xs[i]).aj.map ah.enc)]]=T (i+1):=fun i hi=>by
  have:=nL (base:=hd) (l:=xs.map eB) (i:=i) (by rw[List.length_map];exact hi);rw[List.getElem_map] at this;rw[hT];exact this
 have hTe:T xs.length=(hd++xs.map eB).map ah.enc:=by rw[hT];simp only;rw[List.take_of_length_le (by simp)]
 clear hT;rw[<-hT0];rw[<-hTe];refine LD (rs:=[.cell 4 39]) zmx func104 ntmps104 rfl rfl rfl rfl rfl ?_;simp -implicitDefEqProofs (disch:=omega) only[go_sem];refine wT 1 1 2 (T 0) [.d (.s []),.bE (T 0)] rfl rfl (by rw[hT0];exact jN) ?_
 refine bC (ι:=Nat) zmx rfl [1,4,5,6] (fun i=>[.c (.d (.sl (xs.map au.enc))),.c (.ptr (0,0) 0),.c (.ptr (0,1) 0),.c (.d (.i .i64 i))])
  (fun i=>[.box [.d (.s []),.bE []],.box [.d (.s []),.bL (0,2) (T i)],.tok 2 (T i)]::bD::Ω)
  (fun i=>i<=xs.length) (fun i=>xs.length-i) 0 rfl rfl (Nat.zero_le _) ?_
 intro i hi;have hl:=nN i;simp -implicitDefEqProofs (disch:=omega) only[go_sem]
 with_reducible refine aA (fun hb=> ?_) (fun hb=> ?_)<;>have h:=hb<;>(try simp only[wf_preprocess] at h)<;>simp -implicitDefEqProofs (disch:=omega) only[go_sem,hb]<;>(repeat(with_reducible refine And.intro ?_ ?_;focus first|omega|rfl|assumption|exact⟨_,rfl,rfl⟩|(simp;omega)|(simp;done)))
 ·have hi':i<xs.length:=by omega
  have hs:=hTs i hi'
  (repeat(with_reducible refine And.intro ?_ ?_;focus first|omega|rfl|assumption|exact⟨_,rfl,rfl⟩|(simp;omega)|(simp;done)))
  refine ay (hA xs[i] (List.getElem_mem hi')) ?_;simp -implicitDefEqProofs (disch:=omega) only[go_sem]
  (repeat(with_reducible refine And.intro ?_ ?_;focus first|omega|rfl|assumption|exact⟨_,rfl,rfl⟩|(simp;omega)|(simp;done)))
  rw[hs];exact cO (i+1) (by omega) rfl rfl (by omega)
 ·have hi':i=xs.length:=by omega
  subst hi';exact⟨rfl,rfl⟩
theorem JQ:∀N:Nat,∀x:au,SizeOf.sizeOf x<N->gI x=true->x.sz<=4194304->aG prog 42 [x.v] (eB x).v
 |0=>fun x h=>by omega
 |N+1=>by
  have ih:=JQ N;intro x hn hok hsz S;have jl:=au.iy x;have Co:=au.tC x;have hzz:=sP x;rw[tV,Bool.and_eq_true,Bool.and_eq_true] at hok;obtain⟨hfi,hoa,Qa⟩:=hok;have hfi:=iR hfi;have hoa:=AU.1 hoa;have Qa:=CR.1 Qa;have hA:∀t∈x.fArgs,aG prog 42 [t.v] (eB t).v:=fun t ht=>ih t (by have:=List.sizeOf_lt_of_mem ht;omega) (hoa t ht) (by have:=Mg ht;omega);have hxe:=Es x;refine zcx [.cell 2 39] func42 ntmps42 ?_;simp -implicitDefEqProofs (disch:=omega) only[go_sem]
  with_reducible refine aA (fun hb=> ?_) (fun hb=> ?_)<;>have h:=hb<;>(try simp only[wf_preprocess] at h)<;>simp -implicitDefEqProofs (disch:=omega) only[go_sem,hb]<;>(repeat(with_reducible refine And.intro ?_ ?_;focus first|omega|rfl|assumption|exact⟨_,rfl,rfl⟩|(simp;omega)|(simp;done)))
  ·rw[if_pos h] at hxe;rw[hxe];have hb:=hfi.2.2.2.1;rw[if_pos h] at hb;refine ay (sQ x.fN (by omega) (by omega)) ?_;simp -implicitDefEqProofs (disch:=omega) only[go_sem];refine ay (bW _) ?_;simp -implicitDefEqProofs (disch:=omega) only[go_sem];rfl
  have k1:=h;rw[if_neg h] at hxe
  with_reducible refine aA (fun hb=> ?_) (fun hb=> ?_)<;>have h:=hb<;>(try simp only[wf_preprocess] at h)<;>simp -implicitDefEqProofs (disch:=omega) only[go_sem,hb]<;>(repeat(with_reducible refine And.intro ?_ ?_;focus first|omega|rfl|assumption|exact⟨_,rfl,rfl⟩|(simp;omega)|(simp;done)))
  ·rw[if_pos h] at hxe;rw[hxe];have hb:=hfi.2.2.2.1;rw[if_neg k1,if_pos h] at hb;rcases hb with e|e
   ·rw[e];simp -implicitDefEqProofs (disch:=omega) only[go_sem,List.getD_cons_zero]
    (repeat(with_reducible refine And.intro ?_ ?_;focus first|omega|rfl|assumption|exact⟨_,rfl,rfl⟩|(simp;omega)|(simp;done)))
    refine ay (bW _) ?_;simp -implicitDefEqProofs (disch:=omega) only[go_sem];rfl
   ·rw[e];simp -implicitDefEqProofs (disch:=omega) only[go_sem,List.getD_cons_zero,List.getD_cons_succ]
    (repeat(with_reducible refine And.intro ?_ ?_;focus first|omega|rfl|assumption|exact⟨_,rfl,rfl⟩|(simp;omega)|(simp;done)))
    refine ay (bW _) ?_;simp -implicitDefEqProofs (disch:=omega) only[go_sem];rfl
  have k2:=h;rw[if_neg h] at hxe
  with_reducible refine aA (fun hb=> ?_) (fun hb=> ?_)<;>have h:=hb<;>(try simp only[wf_preprocess] at h)<;>simp -implicitDefEqProofs (disch:=omega) only[go_sem,hb]<;>(repeat(with_reducible refine And.intro ?_ ?_;focus first|omega|rfl|assumption|exact⟨_,rfl,rfl⟩|(simp;omega)|(simp;done)))
  ·rw[if_pos h] at hxe;rw[hxe];refine ay (bW _) ?_;simp -implicitDefEqProofs (disch:=omega) only[go_sem];rfl
  have k3:=h;clear hxe
  with_reducible refine aA (fun hb=> ?_) (fun hb=> ?_)<;>have h:=hb<;>(try simp only[wf_preprocess] at h)<;>simp -implicitDefEqProofs (disch:=omega) only[go_sem,hb]<;>(repeat(with_reducible refine And.intro ?_ ?_;focus first|omega|rfl|assumption|exact⟨_,rfl,rfl⟩|(simp;omega)|(simp;done)))
  ·have hx:=jh k1 k2 k3 (by omega)
   have hh:fZ x.aH x.aZ x.fName x.fType=[bB lg,bB x.fName]:=by rw[iI h];rfl
   rw[hh] at hx;refine ay (bW _) ?_;simp -implicitDefEqProofs (disch:=omega) only[go_sem];refine ay (bW _) ?_;simp -implicitDefEqProofs (disch:=omega) only[go_sem];have hE:=fun S=>mJ [bB lg,bB x.fName] x.fArgs S hA (by omega) (by simp);simp only[List.map_cons,List.map_nil,iH] at hE;refine aX rfl (hE _) ?_;simp -implicitDefEqProofs (disch:=omega) only[go_sem];rw[hx];rfl
  have k4:=h
  with_reducible refine aA (fun hb=> ?_) (fun hb=> ?_)<;>have h:=hb<;>(try simp only[wf_preprocess] at h)<;>simp -implicitDefEqProofs (disch:=omega) only[go_sem,hb]<;>(repeat(with_reducible refine And.intro ?_ ?_;focus first|omega|rfl|assumption|exact⟨_,rfl,rfl⟩|(simp;omega)|(simp;done)))
  ·have hx:=jh k1 k2 k3 (by omega)
   have hh:fZ x.aH x.aZ x.fName x.fType=[bB gu,bB x.aZ,bB x.fName]:=by rw[iI h];rfl
   rw[hh] at hx;refine ay (bW _) ?_;simp -implicitDefEqProofs (disch:=omega) only[go_sem];refine ay (bW _) ?_;simp -implicitDefEqProofs (disch:=omega) only[go_sem];refine ay (bW _) ?_;simp -implicitDefEqProofs (disch:=omega) only[go_sem];have hE:=fun S=>mJ [bB gu,bB x.aZ,bB x.fName] x.fArgs S hA (by omega) (by simp);simp only[List.map_cons,List.map_nil,iH] at hE;refine aX rfl (hE _) ?_;simp -implicitDefEqProofs (disch:=omega) only[go_sem];rw[hx];rfl
  have k5:=h
  with_reducible refine aA (fun hb=> ?_) (fun hb=> ?_)<;>have h:=hb<;>(try simp only[wf_preprocess] at h)<;>simp -implicitDefEqProofs (disch:=omega) only[go_sem,hb]<;>(repeat(with_reducible refine And.intro ?_ ?_;focus first|omega|rfl|assumption|exact⟨_,rfl,rfl⟩|(simp;omega)|(simp;done)))
  ·have hx:=jh k1 k2 k3 (by omega)
   have hh:fZ x.aH x.aZ x.fName x.fType=[bB nV,bB x.fName]:=by rw[iI h];rfl
   rw[hh] at hx;refine ay (bW _) ?_;simp -implicitDefEqProofs (disch:=omega) only[go_sem];refine ay (bW _) ?_;simp -implicitDefEqProofs (disch:=omega) only[go_sem];have hE:=fun S=>mJ [bB nV,bB x.fName] x.fArgs S hA (by omega) (by simp);simp only[List.map_cons,List.map_nil,iH] at hE;refine aX rfl (hE _) ?_;simp -implicitDefEqProofs (disch:=omega) only[go_sem];rw[hx];rfl
  have k6:=h
  with_reducible refine aA (fun hb=> ?_) (fun hb=> ?_)<;>have h:=hb<;>(try simp only[wf_preprocess] at h)<;>simp -implicitDefEqProofs (disch:=omega) only[go_sem,hb]<;>(repeat(with_reducible refine And.intro ?_ ?_;focus first|omega|rfl|assumption|exact⟨_,rfl,rfl⟩|(simp;omega)|(simp;done)))
  ·have hx:=jh k1 k2 k3 (by omega)
   have hh:fZ x.aH x.aZ x.fName x.fType=[bB nW,bB x.fName]:=by rw[iI h];rfl
   rw[hh] at hx;refine ay (bW _) ?_;simp -implicitDefEqProofs (disch:=omega) only[go_sem];refine ay (bW _) ?_;simp -implicitDefEqProofs (disch:=omega) only[go_sem];have hE:=fun S=>mJ [bB nW,bB x.fName] x.fArgs S hA (by omega) (by simp);simp only[List.map_cons,List.map_nil,iH] at hE;refine aX rfl (hE _) ?_;simp -implicitDefEqProofs (disch:=omega) only[go_sem];rw[hx];rfl
  have k8:=h
  with_reducible refine aA (fun hb=> ?_) (fun hb=> ?_)<;>have h:=hb<;>(try simp only[wf_preprocess] at h)<;>simp -implicitDefEqProofs (disch:=omega) only[go_sem,hb]<;>(repeat(with_reducible refine And.intro ?_ ?_;focus first|omega|rfl|assumption|exact⟨_,rfl,rfl⟩|(simp;omega)|(simp;done)))
  ·have hx:=jh k1 k2 k3 (by omega)
   have hh:fZ x.aH x.aZ x.fName x.fType=[bB sj]:=by rw[iI h];rfl
   rw[hh] at hx;refine ay (bW _) ?_;simp -implicitDefEqProofs (disch:=omega) only[go_sem];have hE:=fun S=>mJ [bB sj] x.fArgs S hA (by omega) (by simp);simp only[List.map_cons,List.map_nil,iH] at hE;refine aX rfl (hE _) ?_;simp -implicitDefEqProofs (disch:=omega) only[go_sem];rw[hx];rfl
  have k9:=h
  with_reducible refine aA (fun hb=> ?_) (fun hb=> ?_)<;>have h:=hb<;>(try simp only[wf_preprocess] at h)<;>simp -implicitDefEqProofs (disch:=omega) only[go_sem,hb]<;>(repeat(with_reducible refine And.intro ?_ ?_;focus first|omega|rfl|assumption|exact⟨_,rfl,rfl⟩|(simp;omega)|(simp;done)))
  ·have hx:=jh k1 k2 k3 (by omega)
   have hh:fZ x.aH x.aZ x.fName x.fType=[bB x.fName]:=by rw[iI h];rfl
   rw[hh] at hx;refine ay (bW _) ?_;simp -implicitDefEqProofs (disch:=omega) only[go_sem];have hE:=fun S=>mJ [bB x.fName] x.fArgs S hA (by omega) (by simp);simp only[List.map_cons,List.map_nil,iH] at hE;refine aX rfl (hE _) ?_;simp -implicitDefEqProofs (disch:=omega) only[go_sem];rw[hx];rfl
  have k10:=h
  with_reducible refine aA (fun hb=> ?_) (fun hb=> ?_)<;>have h:=hb<;>(try simp only[wf_preprocess] at h)<;>simp -implicitDefEqProofs (disch:=omega) only[go_sem,hb]<;>(repeat(with_reducible refine And.intro ?_ ?_;focus first|omega|rfl|assumption|exact⟨_,rfl,rfl⟩|(simp;omega)|(simp;done)))
  ·have hx:=jh k1 k2 k3 (by omega)
   have hh:fZ x.aH x.aZ x.fName x.fType=[bB lq,bB x.aZ]:=by rw[iI h];rfl
   rw[hh] at hx;refine ay (bW _) ?_;simp -implicitDefEqProofs (disch:=omega) only[go_sem];refine ay (bW _) ?_;simp -implicitDefEqProofs (disch:=omega) only[go_sem];have hE:=fun S=>mJ [bB lq,bB x.aZ] x.fArgs S hA (by omega) (by simp);simp only[List.map_cons,List.map_nil,iH] at hE;refine aX rfl (hE _) ?_;simp -implicitDefEqProofs (disch:=omega) only[go_sem];rw[hx];rfl
  have k11:=h
  with_reducible refine aA (fun hb=> ?_) (fun hb=> ?_)<;>have h:=hb<;>(try simp only[wf_preprocess] at h)<;>simp -implicitDefEqProofs (disch:=omega) only[go_sem,hb]<;>(repeat(with_reducible refine And.intro ?_ ?_;focus first|omega|rfl|assumption|exact⟨_,rfl,rfl⟩|(simp;omega)|(simp;done)))
  ·have hx:=jh k1 k2 k3 (by omega)
   have hh:fZ x.aH x.aZ x.fName x.fType=[bB oH,eH x.fType]:=by rw[iI h];rfl
   rw[hh] at hx;refine ay (bW _) ?_;simp -implicitDefEqProofs (disch:=omega) only[go_sem];refine ay (Ah x.fType (by omega)) ?_;simp -implicitDefEqProofs (disch:=omega) only[go_sem];have hE:=fun S=>mJ [bB oH,eH x.fType] x.fArgs S hA (by omega) (by simp);simp only[List.map_cons,List.map_nil,iH,ah.aB (eH x.fType)] at hE;refine aX rfl (hE _) ?_;simp -implicitDefEqProofs (disch:=omega) only[go_sem];rw[hx];show _=V.agg [.d (.s []),.d (.sl (List.map ah.enc (bB oH::eH x.fType::x.fArgs.map eB)))];simp only[List.cons_append,List.nil_append,List.map_cons,iH,ah.aB (eH x.fType)];rfl
  have k12:=h
  have hk7:x.aH=7:=by have:=hfi.1;omega
  have hx:=Es x;rw[if_neg k1,if_neg k2,if_neg k3,if_neg (by omega)] at hx
  have hh:fZ x.aH x.aZ x.fName x.fType=[bB iP]:=by rw[iI hk7];rfl
  rw[hh] at hx;refine ay (bW _) ?_;simp -implicitDefEqProofs (disch:=omega) only[go_sem];have hE:=fun bD Ω=>Qb [bB iP] x.fArgs bD Ω hA (by omega) (by simp);obtain⟨B,hB⟩:∃B:Nat->List (List D),B=fun i=>(([bB iP]++x.fArgs.map eB)++(x.aI.map vD).take i).map ah.enc:=⟨_,rfl⟩
  have hB0:([bB iP]++x.fArgs.map eB).map ah.enc=B 0:=by rw[hB];simp only[List.take_zero,List.append_nil]
  have hBl:∀i,(B i).length<=i+x.fArgs.length+1:=fun i=>by
   rw[hB];simp only[List.length_append,List.length_map,List.length_cons,List.length_nil];have:=List.length_take_le i (x.aI.map vD);omega
  have hBr:∀i,∀r∈B i,r.length=2:=fun i=>by rw[hB];exact jN
  have Tt:∀i (hi:i<x.aI.length),B i++[[.s [],.sl (([bB x.aI[i].bO]++aU x.aI[i].aW++[eB x.aI[i].fBody]).map ah.enc)]]=B (i+1):=fun i hi=>by
   have:=nL (base:=[bB iP]++x.fArgs.map eB) (l:=x.aI.map vD) (i:=i) (by rw[List.length_map];exact hi);rw[List.getElem_map,Y5,eP,dN] at this;rw[hB];exact this
  have hBe:B x.aI.length=([bB iP]++x.fArgs.map eB++x.aI.map vD).map ah.enc:=by rw[hB];simp only;rw[List.take_of_length_le (by simp)]
  clear hB;simp only[hB0] at hE;simp only[List.map_cons,List.map_nil,iH] at hE;refine aX rfl (hE _ _) ?_;simp -implicitDefEqProofs (disch:=omega) only[go_sem]
  refine bC (ι:=Nat) zmx rfl [1,2,3,4] (fun i=>[.c (.ptr (0,0) 0),.c (.ptr (0,1) 0),.c (.ptr (0,5) 0),.c (.d (.i .i64 i))])
   (fun i=>[.box [.d (.i .i64 x.aH),.d (.s x.aZ),.d (.s x.fName),.d (.i .i64 x.fN),.d (.i .i64 x.fType.aH),.d (.s x.fType.fName),.d (.sl (x.fType.fArgs.map ak.enc)),.d (.sl (x.fArgs.map au.enc)),.d (.sl (x.aI.map aJ.enc))],.box [.d (.s []),.bE []],.box [.d (.s []),.bL (0,4) (B 0)],.box [.d (.s []),.bL (0,4) (B 0)],.tok 2 (B i),.box [.d (.s []),.bL (0,4) (B i)]]::S)
   (fun i=>i<=x.aI.length) (fun i=>x.aI.length-i) 0 rfl rfl (Nat.zero_le _) ?_
  intro i hi;have hl:=hBl i;have hr:=hBr i;simp -implicitDefEqProofs (disch:=omega) only[go_sem]
  with_reducible refine aA (fun hb=> ?_) (fun hb=> ?_)<;>have h:=hb<;>(try simp only[wf_preprocess] at h)<;>simp -implicitDefEqProofs (disch:=omega) only[go_sem,hb]<;>(repeat(with_reducible refine And.intro ?_ ?_;focus first|omega|rfl|assumption|exact⟨_,rfl,rfl⟩|(simp;omega)|(simp;done)))
  ·have hi':i<x.aI.length:=by omega
   have hm:=List.getElem_mem hi';have hez:=JN hm;have hea:=xu x.aI[i];have hs:=Tt i hi';have hak:=Qa _ hm;rw[nT,Bool.and_eq_true,Bool.and_eq_true] at hak;have hls:=List.sizeOf_lt_of_mem hm;have hlb:=aJ.rC x.aI[i]
   (repeat(with_reducible refine And.intro ?_ ?_;focus first|omega|rfl|assumption|exact⟨_,rfl,rfl⟩|(simp;omega)|(simp;done)))
   refine ay (bW _) ?_;simp -implicitDefEqProofs (disch:=omega) only[go_sem]
   (repeat(with_reducible refine And.intro ?_ ?_;focus first|omega|rfl|assumption|exact⟨_,rfl,rfl⟩|(simp;omega)|(simp;done)))
   refine ay (Er x.aI[i].aW (by omega)) ?_;have hwr:=jN (l:=aU x.aI[i].aW)
   have hwl:(aU x.aI[i].aW).length=x.aI[i].aW.length:=by rw[lI]
   simp -implicitDefEqProofs (disch:=omega) only[go_sem]
   (repeat(with_reducible refine And.intro ?_ ?_;focus first|omega|rfl|assumption|exact⟨_,rfl,rfl⟩|(simp;omega)|(simp;done)))
   refine ay (ih x.aI[i].fBody (by omega) hak.2.2 (by omega)) ?_;simp -implicitDefEqProofs (disch:=omega) only[go_sem]
   (repeat(with_reducible refine And.intro ?_ ?_;focus first|omega|rfl|assumption|exact⟨_,rfl,rfl⟩|(simp;omega)|(simp;done)))
   simp only[List.cons_append,List.nil_append,List.map_cons,List.map_nil,List.map_append,iH,ah.aB (eB x.aI[i].fBody)] at hs;rw[hs];exact dM 6 (by decide) (i+1) (by omega) rfl rfl rfl rfl (by omega)
  ·have hi':i=x.aI.length:=by omega
   subst hi';rw[hx,hBe];rfl
theorem Zd(x:au)(hok:gI x=true)(hsz:x.sz<=4194304):aG prog 42 [x.v] (eB x).v:=JQ _ x (Nat.lt_succ_self _) hok hsz
end Go.Ab