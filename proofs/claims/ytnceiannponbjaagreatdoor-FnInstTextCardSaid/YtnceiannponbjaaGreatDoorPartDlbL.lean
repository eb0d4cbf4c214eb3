/-
  SEVERAL TEXTS IN ONE (merged by program): contracts and models, each with its own heading.
-/
import Derived.Test.YtnceiannponbjaaGreatDoorPartDlbJ
import Derived.Test.YtnceiannponbjaaGreatDoorPartDlbK
open Go.Proofs Go.Proofs.Tryz
set_option linter.unusedSimpArgs false
set_option linter.unusedVariables false
set_option maxRecDepth 4000
namespace Go.Ab
theorem nO(hd:List ah)(xs:List aC)(S:Store)(hA:∀t∈xs,aJ prog 42 [t.v] (dX t).v)(hl:xs.length<=4194304)(hh:hd.length<=4):bJ prog 104 [.c (.bE (hd.map ah.enc)),.c (.d (.sl (xs.map aC.enc)))] S
 (fun r S'=>r=.agg [.d (.s []),.d (.sl ((hd++xs.map dX).map ah.enc))]/\S'=S):=by
 obtain⟨T,hT⟩:∃T:Nat->List (List D),T=fun i=>(hd++(xs.map dX).take i).map ah.enc:=⟨_,rfl⟩
 have hT0:T 0=hd.map ah.enc:=by rw[hT];simp only[List.take_zero,List.append_nil]
 have lF:∀i,(T i).length<=i+hd.length:=fun i=>by
  rw[hT];simp only[List.length_map,List.length_append];have:=List.length_take_le i (xs.map dX);omega
 have hTs:∀i (hi:i<xs.length),T i++[[.s (dX xs[i]).aU,.sl ((dX xs[i]).aj.map ah.enc)]]=T (i+1):=fun i hi=>by
  have:=lQ (base:=hd) (l:=xs.map dX) (i:=i) (by rw[List.length_map];exact hi);rw[List.getElem_map] at this;rw[hT];exact this
 have hTe:T xs.length=(hd++xs.map dX).map ah.enc:=by rw[hT];simp only;rw[List.take_of_length_le (by simp)]
 clear hT;rw[<-hT0];rw[<-hTe];refine zcx [.cell 4 39] func104 ntmps104 ?_;simp -implicitDefEqProofs (disch:=omega) only[go_sem];refine AQ 1 1 2 (T 0) [.d (.s []),.bE (T 0)] rfl rfl (by rw[hT0];exact gW) ?_
 refine bF (ι:=Nat) zmx rfl [1,4,5,6] (fun i=>[.c (.d (.sl (xs.map aC.enc))),.c (.ptr (0,0) 0),.c (.ptr (0,1) 0),.c (.d (.i .i64 i))])
  (fun i=>[.box [.d (.s []),.bE []],.box [.d (.s []),.bK (0,2) (T i)],.tok 2 (T i)]::S)
  (fun i=>i<=xs.length) (fun i=>xs.length-i) 0 rfl rfl (Nat.zero_le _) ?_
 intro i hi;have hl:=lF i;simp -implicitDefEqProofs (disch:=omega) only[go_sem]
 with_reducible refine aD (fun hb=> ?_) (fun hb=> ?_)<;>have h:=hb<;>(try simp only[wf_preprocess] at h)<;>simp -implicitDefEqProofs (disch:=omega) only[go_sem,hb]<;>(repeat(with_reducible refine And.intro ?_ ?_;focus first|omega|rfl|assumption|exact⟨_,rfl,rfl⟩|(simp;omega)|(simp;done)))
 ·have hi':i<xs.length:=by omega
  have hs:=hTs i hi'
  (repeat(with_reducible refine And.intro ?_ ?_;focus first|omega|rfl|assumption|exact⟨_,rfl,rfl⟩|(simp;omega)|(simp;done)))
  refine aA (hA xs[i] (List.getElem_mem hi')) ?_;simp -implicitDefEqProofs (disch:=omega) only[go_sem]
  (repeat(with_reducible refine And.intro ?_ ?_;focus first|omega|rfl|assumption|exact⟨_,rfl,rfl⟩|(simp;omega)|(simp;done)))
  rw[hs];exact dG (i+1) (by omega) rfl rfl (by omega)
 ·have hi':i=xs.length:=by omega
  subst hi';rfl
theorem QH(hd:List ah)(xs:List aC)(bD:List Ab.Obj)(Ω:Store)(hA:∀t∈xs,aJ prog 42 [t.v] (dX t).v)(hl:xs.length<=4194304)(hh:hd.length<=4):bJ prog 104 [.c (.bE (hd.map ah.enc)),.c (.d (.sl (xs.map aC.enc)))] (bD::Ω)
 (fun r S'=>r=.agg [.d (.s []),.bK (0,bD.length+2) ((hd++xs.map dX).map ah.enc)]/\S'=(bD++[.box [.d (.s []),.bK (0,bD.length+2) ((hd++xs.map dX).map ah.enc)],.box [.d (.s []),.bK (0,bD.length+2) ((hd++xs.map dX).map ah.enc)],.tok 2 ((hd++xs.map dX).map ah.enc)])::Ω):=by
 obtain⟨T,hT⟩:∃T:Nat->List (List D),T=fun i=>(hd++(xs.map dX).take i).map ah.enc:=⟨_,rfl⟩
 have hT0:T 0=hd.map ah.enc:=by rw[hT];simp only[List.take_zero,List.append_nil]
 have lF:∀i,(T i).length<=i+hd.length:=fun i=>by
  rw[hT];simp only[List.length_map,List.length_append];have:=List.length_take_le i (xs.map dX);omega
 have hTs:∀i (hi:i<xs.length),T i++[[.s (dX xs[i]).aU,.sl ((dX xs[i]).aj.map ah.enc)]]=T (i+1):=fun i hi=>by
  have:=lQ (base:=hd) (l:=xs.map dX) (i:=i) (by rw[List.length_map];exact hi);rw[List.getElem_map] at this;rw[hT];exact this
 have hTe:T xs.length=(hd++xs.map dX).map ah.enc:=by rw[hT];simp only;rw[List.take_of_length_le (by simp)]
 clear hT;rw[<-hT0];rw[<-hTe];refine EO (rs:=[.cell 4 39]) zmx func104 ntmps104 rfl rfl rfl rfl rfl ?_;simp -implicitDefEqProofs (disch:=omega) only[go_sem];refine AQ 1 1 2 (T 0) [.d (.s []),.bE (T 0)] rfl rfl (by rw[hT0];exact gW) ?_
 refine bF (ι:=Nat) zmx rfl [1,4,5,6] (fun i=>[.c (.d (.sl (xs.map aC.enc))),.c (.ptr (0,0) 0),.c (.ptr (0,1) 0),.c (.d (.i .i64 i))])
  (fun i=>[.box [.d (.s []),.bE []],.box [.d (.s []),.bK (0,2) (T i)],.tok 2 (T i)]::bD::Ω)
  (fun i=>i<=xs.length) (fun i=>xs.length-i) 0 rfl rfl (Nat.zero_le _) ?_
 intro i hi;have hl:=lF i;simp -implicitDefEqProofs (disch:=omega) only[go_sem]
 with_reducible refine aD (fun hb=> ?_) (fun hb=> ?_)<;>have h:=hb<;>(try simp only[wf_preprocess] at h)<;>simp -implicitDefEqProofs (disch:=omega) only[go_sem,hb]<;>(repeat(with_reducible refine And.intro ?_ ?_;focus first|omega|rfl|assumption|exact⟨_,rfl,rfl⟩|(simp;omega)|(simp;done)))
 ·have hi':i<xs.length:=by omega
  have hs:=hTs i hi'
  (repeat(with_reducible refine And.intro ?_ ?_;focus first|omega|rfl|assumption|exact⟨_,rfl,rfl⟩|(simp;omega)|(simp;done)))
  refine aA (hA xs[i] (List.getElem_mem hi')) ?_;simp -implicitDefEqProofs (disch:=omega) only[go_sem]
  (repeat(with_reducible refine And.intro ?_ ?_;focus first|omega|rfl|assumption|exact⟨_,rfl,rfl⟩|(simp;omega)|(simp;done)))
  rw[hs];exact dG (i+1) (by omega) rfl rfl (by omega)
 ·have hi':i=xs.length:=by omega
  subst hi';exact⟨rfl,rfl⟩
theorem KC:∀N:Nat,∀x:aC,SizeOf.sizeOf x<N->gU x=true->x.sz<=4194304->aJ prog 42 [x.v] (dX x).v
 |0=>fun x h=>by omega
 |N+1=>by
  have ih:=KC N;intro x hn hok hsz S;have jA:=aC.iI x;have Dm:=aC.uU x;have hzz:=uK x;rw[vk,Bool.and_eq_true,Bool.and_eq_true] at hok;obtain⟨hfi,hoa,QG⟩:=hok;have hfi:=gF hfi;have hoa:=BK.1 hoa;have QG:=DL.1 QG;have hA:∀t∈x.fArgs,aJ prog 42 [t.v] (dX t).v:=fun t ht=>ih t (by have:=List.sizeOf_lt_of_mem ht;omega) (hoa t ht) (by have:=MZ ht;omega);have hxe:=Fv x;refine zcx [.cell 2 39] func42 ntmps42 ?_;simp -implicitDefEqProofs (disch:=omega) only[go_sem]
  with_reducible refine aD (fun hb=> ?_) (fun hb=> ?_)<;>have h:=hb<;>(try simp only[wf_preprocess] at h)<;>simp -implicitDefEqProofs (disch:=omega) only[go_sem,hb]<;>(repeat(with_reducible refine And.intro ?_ ?_;focus first|omega|rfl|assumption|exact⟨_,rfl,rfl⟩|(simp;omega)|(simp;done)))
  ·rw[if_pos h] at hxe;rw[hxe];have hb:=hfi.2.2.2.1;rw[if_pos h] at hb;refine aA (uL x.fN (by omega) (by omega)) ?_;simp -implicitDefEqProofs (disch:=omega) only[go_sem];refine aA (bO _) ?_;simp -implicitDefEqProofs (disch:=omega) only[go_sem];rfl
  have k1:=h;rw[if_neg h] at hxe
  with_reducible refine aD (fun hb=> ?_) (fun hb=> ?_)<;>have h:=hb<;>(try simp only[wf_preprocess] at h)<;>simp -implicitDefEqProofs (disch:=omega) only[go_sem,hb]<;>(repeat(with_reducible refine And.intro ?_ ?_;focus first|omega|rfl|assumption|exact⟨_,rfl,rfl⟩|(simp;omega)|(simp;done)))
  ·rw[if_pos h] at hxe;rw[hxe];have hb:=hfi.2.2.2.1;rw[if_neg k1,if_pos h] at hb;rcases hb with e|e
   ·rw[e];simp -implicitDefEqProofs (disch:=omega) only[go_sem,List.getD_cons_zero]
    (repeat(with_reducible refine And.intro ?_ ?_;focus first|omega|rfl|assumption|exact⟨_,rfl,rfl⟩|(simp;omega)|(simp;done)))
    refine aA (bO _) ?_;simp -implicitDefEqProofs (disch:=omega) only[go_sem];rfl
   ·rw[e];simp -implicitDefEqProofs (disch:=omega) only[go_sem,List.getD_cons_zero,List.getD_cons_succ]
    (repeat(with_reducible refine And.intro ?_ ?_;focus first|omega|rfl|assumption|exact⟨_,rfl,rfl⟩|(simp;omega)|(simp;done)))
    refine aA (bO _) ?_;simp -implicitDefEqProofs (disch:=omega) only[go_sem];rfl
  have k2:=h;rw[if_neg h] at hxe
  with_reducible refine aD (fun hb=> ?_) (fun hb=> ?_)<;>have h:=hb<;>(try simp only[wf_preprocess] at h)<;>simp -implicitDefEqProofs (disch:=omega) only[go_sem,hb]<;>(repeat(with_reducible refine And.intro ?_ ?_;focus first|omega|rfl|assumption|exact⟨_,rfl,rfl⟩|(simp;omega)|(simp;done)))
  ·rw[if_pos h] at hxe;rw[hxe];refine aA (bO _) ?_;simp -implicitDefEqProofs (disch:=omega) only[go_sem];rfl
  have k3:=h;clear hxe
  with_reducible refine aD (fun hb=> ?_) (fun hb=> ?_)<;>have h:=hb<;>(try simp only[wf_preprocess] at h)<;>simp -implicitDefEqProofs (disch:=omega) only[go_sem,hb]<;>(repeat(with_reducible refine And.intro ?_ ?_;focus first|omega|rfl|assumption|exact⟨_,rfl,rfl⟩|(simp;omega)|(simp;done)))
  ·have hx:=jG k1 k2 k3 (by omega)
   have hh:gM x.aI x.bg x.fName x.fType=[bH mF,bH x.fName]:=by rw[jc h];rfl
   rw[hh] at hx;refine aA (bO _) ?_;simp -implicitDefEqProofs (disch:=omega) only[go_sem];refine aA (bO _) ?_;simp -implicitDefEqProofs (disch:=omega) only[go_sem];have hE:=fun S=>nO [bH mF,bH x.fName] x.fArgs S hA (by omega) (by simp);simp only[List.map_cons,List.map_nil,gq] at hE;refine aT rfl (hE _) ?_;simp -implicitDefEqProofs (disch:=omega) only[go_sem];rw[hx];rfl
  have k4:=h
  with_reducible refine aD (fun hb=> ?_) (fun hb=> ?_)<;>have h:=hb<;>(try simp only[wf_preprocess] at h)<;>simp -implicitDefEqProofs (disch:=omega) only[go_sem,hb]<;>(repeat(with_reducible refine And.intro ?_ ?_;focus first|omega|rfl|assumption|exact⟨_,rfl,rfl⟩|(simp;omega)|(simp;done)))
  ·have hx:=jG k1 k2 k3 (by omega)
   have hh:gM x.aI x.bg x.fName x.fType=[bH gP,bH x.bg,bH x.fName]:=by rw[jc h];rfl
   rw[hh] at hx;refine aA (bO _) ?_;simp -implicitDefEqProofs (disch:=omega) only[go_sem];refine aA (bO _) ?_;simp -implicitDefEqProofs (disch:=omega) only[go_sem];refine aA (bO _) ?_;simp -implicitDefEqProofs (disch:=omega) only[go_sem];have hE:=fun S=>nO [bH gP,bH x.bg,bH x.fName] x.fArgs S hA (by omega) (by simp);simp only[List.map_cons,List.map_nil,gq] at hE;refine aT rfl (hE _) ?_;simp -implicitDefEqProofs (disch:=omega) only[go_sem];rw[hx];rfl
  have k5:=h
  with_reducible refine aD (fun hb=> ?_) (fun hb=> ?_)<;>have h:=hb<;>(try simp only[wf_preprocess] at h)<;>simp -implicitDefEqProofs (disch:=omega) only[go_sem,hb]<;>(repeat(with_reducible refine And.intro ?_ ?_;focus first|omega|rfl|assumption|exact⟨_,rfl,rfl⟩|(simp;omega)|(simp;done)))
  ·have hx:=jG k1 k2 k3 (by omega)
   have hh:gM x.aI x.bg x.fName x.fType=[bH pE,bH x.fName]:=by rw[jc h];rfl
   rw[hh] at hx;refine aA (bO _) ?_;simp -implicitDefEqProofs (disch:=omega) only[go_sem];refine aA (bO _) ?_;simp -implicitDefEqProofs (disch:=omega) only[go_sem];have hE:=fun S=>nO [bH pE,bH x.fName] x.fArgs S hA (by omega) (by simp);simp only[List.map_cons,List.map_nil,gq] at hE;refine aT rfl (hE _) ?_;simp -implicitDefEqProofs (disch:=omega) only[go_sem];rw[hx];rfl
  have k6:=h
  with_reducible refine aD (fun hb=> ?_) (fun hb=> ?_)<;>have h:=hb<;>(try simp only[wf_preprocess] at h)<;>simp -implicitDefEqProofs (disch:=omega) only[go_sem,hb]<;>(repeat(with_reducible refine And.intro ?_ ?_;focus first|omega|rfl|assumption|exact⟨_,rfl,rfl⟩|(simp;omega)|(simp;done)))
  ·have hx:=jG k1 k2 k3 (by omega)
   have hh:gM x.aI x.bg x.fName x.fType=[bH pF,bH x.fName]:=by rw[jc h];rfl
   rw[hh] at hx;refine aA (bO _) ?_;simp -implicitDefEqProofs (disch:=omega) only[go_sem];refine aA (bO _) ?_;simp -implicitDefEqProofs (disch:=omega) only[go_sem];have hE:=fun S=>nO [bH pF,bH x.fName] x.fArgs S hA (by omega) (by simp);simp only[List.map_cons,List.map_nil,gq] at hE;refine aT rfl (hE _) ?_;simp -implicitDefEqProofs (disch:=omega) only[go_sem];rw[hx];rfl
  have k8:=h
  with_reducible refine aD (fun hb=> ?_) (fun hb=> ?_)<;>have h:=hb<;>(try simp only[wf_preprocess] at h)<;>simp -implicitDefEqProofs (disch:=omega) only[go_sem,hb]<;>(repeat(with_reducible refine And.intro ?_ ?_;focus first|omega|rfl|assumption|exact⟨_,rfl,rfl⟩|(simp;omega)|(simp;done)))
  ·have hx:=jG k1 k2 k3 (by omega)
   have hh:gM x.aI x.bg x.fName x.fType=[bH um]:=by rw[jc h];rfl
   rw[hh] at hx;refine aA (bO _) ?_;simp -implicitDefEqProofs (disch:=omega) only[go_sem];have hE:=fun S=>nO [bH um] x.fArgs S hA (by omega) (by simp);simp only[List.map_cons,List.map_nil,gq] at hE;refine aT rfl (hE _) ?_;simp -implicitDefEqProofs (disch:=omega) only[go_sem];rw[hx];rfl
  have k9:=h
  with_reducible refine aD (fun hb=> ?_) (fun hb=> ?_)<;>have h:=hb<;>(try simp only[wf_preprocess] at h)<;>simp -implicitDefEqProofs (disch:=omega) only[go_sem,hb]<;>(repeat(with_reducible refine And.intro ?_ ?_;focus first|omega|rfl|assumption|exact⟨_,rfl,rfl⟩|(simp;omega)|(simp;done)))
  ·have hx:=jG k1 k2 k3 (by omega)
   have hh:gM x.aI x.bg x.fName x.fType=[bH x.fName]:=by rw[jc h];rfl
   rw[hh] at hx;refine aA (bO _) ?_;simp -implicitDefEqProofs (disch:=omega) only[go_sem];have hE:=fun S=>nO [bH x.fName] x.fArgs S hA (by omega) (by simp);simp only[List.map_cons,List.map_nil,gq] at hE;refine aT rfl (hE _) ?_;simp -implicitDefEqProofs (disch:=omega) only[go_sem];rw[hx];rfl
  have k10:=h
  with_reducible refine aD (fun hb=> ?_) (fun hb=> ?_)<;>have h:=hb<;>(try simp only[wf_preprocess] at h)<;>simp -implicitDefEqProofs (disch:=omega) only[go_sem,hb]<;>(repeat(with_reducible refine And.intro ?_ ?_;focus first|omega|rfl|assumption|exact⟨_,rfl,rfl⟩|(simp;omega)|(simp;done)))
  ·have hx:=jG k1 k2 k3 (by omega)
   have hh:gM x.aI x.bg x.fName x.fType=[bH mG,bH x.bg]:=by rw[jc h];rfl
   rw[hh] at hx;refine aA (bO _) ?_;simp -implicitDefEqProofs (disch:=omega) only[go_sem];refine aA (bO _) ?_;simp -implicitDefEqProofs (disch:=omega) only[go_sem];have hE:=fun S=>nO [bH mG,bH x.bg] x.fArgs S hA (by omega) (by simp);simp only[List.map_cons,List.map_nil,gq] at hE;refine aT rfl (hE _) ?_;simp -implicitDefEqProofs (disch:=omega) only[go_sem];rw[hx];rfl
  have k11:=h
  with_reducible refine aD (fun hb=> ?_) (fun hb=> ?_)<;>have h:=hb<;>(try simp only[wf_preprocess] at h)<;>simp -implicitDefEqProofs (disch:=omega) only[go_sem,hb]<;>(repeat(with_reducible refine And.intro ?_ ?_;focus first|omega|rfl|assumption|exact⟨_,rfl,rfl⟩|(simp;omega)|(simp;done)))
  ·have hx:=jG k1 k2 k3 (by omega)
   have hh:gM x.aI x.bg x.fName x.fType=[bH qd,dK x.fType]:=by rw[jc h];rfl
   rw[hh] at hx;refine aA (bO _) ?_;simp -implicitDefEqProofs (disch:=omega) only[go_sem];refine aA (qx x.fType (by omega)) ?_;simp -implicitDefEqProofs (disch:=omega) only[go_sem];have hE:=fun S=>nO [bH qd,dK x.fType] x.fArgs S hA (by omega) (by simp);simp only[List.map_cons,List.map_nil,gq,ah.aB (dK x.fType)] at hE;refine aT rfl (hE _) ?_;simp -implicitDefEqProofs (disch:=omega) only[go_sem];rw[hx];show _=V.agg [.d (.s []),.d (.sl (List.map ah.enc (bH qd::dK x.fType::x.fArgs.map dX)))];simp only[List.cons_append,List.nil_append,List.map_cons,gq,ah.aB (dK x.fType)];rfl
  have k12:=h
  have hk7:x.aI=7:=by have:=hfi.1;omega
  have hx:=Fv x;rw[if_neg k1,if_neg k2,if_neg k3,if_neg (by omega)] at hx
  have hh:gM x.aI x.bg x.fName x.fType=[bH jl]:=by rw[jc hk7];rfl
  rw[hh] at hx;refine aA (bO _) ?_;simp -implicitDefEqProofs (disch:=omega) only[go_sem];have hE:=fun bD Ω=>QH [bH jl] x.fArgs bD Ω hA (by omega) (by simp);obtain⟨B,hB⟩:∃B:Nat->List (List D),B=fun i=>(([bH jl]++x.fArgs.map dX)++(x.aO.map wK).take i).map ah.enc:=⟨_,rfl⟩
  have hB0:([bH jl]++x.fArgs.map dX).map ah.enc=B 0:=by rw[hB];simp only[List.take_zero,List.append_nil]
  have hBl:∀i,(B i).length<=i+x.fArgs.length+1:=fun i=>by
   rw[hB];simp only[List.length_append,List.length_map,List.length_cons,List.length_nil];have:=List.length_take_le i (x.aO.map wK);omega
  have hBr:∀i,∀r∈B i,r.length=2:=fun i=>by rw[hB];exact gW
  have Ue:∀i (hi:i<x.aO.length),B i++[[.s [],.sl (([bH x.aO[i].bU]++aR x.aO[i].aK++[dX x.aO[i].fBody]).map ah.enc)]]=B (i+1):=fun i hi=>by
   have:=lQ (base:=[bH jl]++x.fArgs.map dX) (l:=x.aO.map wK) (i:=i) (by rw[List.length_map];exact hi);rw[List.getElem_map,Zw,d9,dP] at this;rw[hB];exact this
  have hBe:B x.aO.length=([bH jl]++x.fArgs.map dX++x.aO.map wK).map ah.enc:=by rw[hB];simp only;rw[List.take_of_length_le (by simp)]
  clear hB;simp only[hB0] at hE;simp only[List.map_cons,List.map_nil,gq] at hE;refine aT rfl (hE _ _) ?_;simp -implicitDefEqProofs (disch:=omega) only[go_sem]
  refine bF (ι:=Nat) zmx rfl [1,2,3,4] (fun i=>[.c (.ptr (0,0) 0),.c (.ptr (0,1) 0),.c (.ptr (0,5) 0),.c (.d (.i .i64 i))])
   (fun i=>[.box [.d (.i .i64 x.aI),.d (.s x.bg),.d (.s x.fName),.d (.i .i64 x.fN),.d (.i .i64 x.fType.aI),.d (.s x.fType.fName),.d (.sl (x.fType.fArgs.map au.enc)),.d (.sl (x.fArgs.map aC.enc)),.d (.sl (x.aO.map aP.enc))],.box [.d (.s []),.bE []],.box [.d (.s []),.bK (0,4) (B 0)],.box [.d (.s []),.bK (0,4) (B 0)],.tok 2 (B i),.box [.d (.s []),.bK (0,4) (B i)]]::S)
   (fun i=>i<=x.aO.length) (fun i=>x.aO.length-i) 0 rfl rfl (Nat.zero_le _) ?_
  intro i hi;have hl:=hBl i;have hr:=hBr i;simp -implicitDefEqProofs (disch:=omega) only[go_sem]
  with_reducible refine aD (fun hb=> ?_) (fun hb=> ?_)<;>have h:=hb<;>(try simp only[wf_preprocess] at h)<;>simp -implicitDefEqProofs (disch:=omega) only[go_sem,hb]<;>(repeat(with_reducible refine And.intro ?_ ?_;focus first|omega|rfl|assumption|exact⟨_,rfl,rfl⟩|(simp;omega)|(simp;done)))
  ·have hi':i<x.aO.length:=by omega
   have hm:=List.getElem_mem hi';have hez:=Kz hm;have hea:=yB x.aO[i];have hs:=Ue i hi';have hak:=QG _ hm;rw[pq,Bool.and_eq_true,Bool.and_eq_true] at hak;have hls:=List.sizeOf_lt_of_mem hm;have hlb:=aP.sU x.aO[i]
   (repeat(with_reducible refine And.intro ?_ ?_;focus first|omega|rfl|assumption|exact⟨_,rfl,rfl⟩|(simp;omega)|(simp;done)))
   refine aA (bO _) ?_;simp -implicitDefEqProofs (disch:=omega) only[go_sem]
   (repeat(with_reducible refine And.intro ?_ ?_;focus first|omega|rfl|assumption|exact⟨_,rfl,rfl⟩|(simp;omega)|(simp;done)))
   refine aA (Fu x.aO[i].aK (by omega)) ?_;have hwr:=gW (l:=aR x.aO[i].aK)
   have hwl:(aR x.aO[i].aK).length=x.aO[i].aK.length:=by rw[kL]
   simp -implicitDefEqProofs (disch:=omega) only[go_sem]
   (repeat(with_reducible refine And.intro ?_ ?_;focus first|omega|rfl|assumption|exact⟨_,rfl,rfl⟩|(simp;omega)|(simp;done)))
   refine aA (ih x.aO[i].fBody (by omega) hak.2.2 (by omega)) ?_;simp -implicitDefEqProofs (disch:=omega) only[go_sem]
   (repeat(with_reducible refine And.intro ?_ ?_;focus first|omega|rfl|assumption|exact⟨_,rfl,rfl⟩|(simp;omega)|(simp;done)))
   simp only[List.cons_append,List.nil_append,List.map_cons,List.map_nil,List.map_append,gq,ah.aB (dX x.aO[i].fBody)] at hs;rw[hs];exact dO 6 (by decide) (i+1) (by omega) rfl rfl rfl rfl (by omega)
  ·have hi':i=x.aO.length:=by omega
   subst hi';rw[hx,hBe];rfl
theorem Bf(x:aC)(hok:gU x=true)(hsz:x.sz<=4194304):aJ prog 42 [x.v] (dX x).v:=KC _ x (Nat.lt_succ_self _) hok hsz
end Go.Ab