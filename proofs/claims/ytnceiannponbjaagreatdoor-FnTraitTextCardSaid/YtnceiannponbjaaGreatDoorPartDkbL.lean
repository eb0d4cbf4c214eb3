/-
  SEVERAL TEXTS IN ONE (merged by program): contracts and models, each with its own heading.
-/
import Derived.Test.YtnceiannponbjaaGreatDoorPartDkbJ
import Derived.Test.YtnceiannponbjaaGreatDoorPartDkbK
open Go.Proofs Go.Proofs.Tryz
set_option linter.unusedSimpArgs false
set_option linter.unusedVariables false
set_option maxRecDepth 4000
namespace Go.Ab
theorem ng(hd:List ah)(xs:List ay)(S:Store)(hA:∀t∈xs,aG prog 42 [t.v] (dZ t).v)(hl:xs.length<=4194304)(hh:hd.length<=4):bD prog 104 [.c (.bA (hd.map ah.enc)),.c (.d (.sl (xs.map ay.enc)))] S
 (fun r S'=>r=.agg [.d (.s []),.d (.sl ((hd++xs.map dZ).map ah.enc))]/\S'=S):=by
 obtain⟨T,hT⟩:∃T:Nat->List (List D),T=fun i=>(hd++(xs.map dZ).take i).map ah.enc:=⟨_,rfl⟩
 have hT0:T 0=hd.map ah.enc:=by rw[hT];simp only[List.take_zero,List.append_nil]
 have mF:∀i,(T i).length<=i+hd.length:=fun i=>by
  rw[hT];simp only[List.length_map,List.length_append];have:=List.length_take_le i (xs.map dZ);omega
 have hTs:∀i (hi:i<xs.length),T i++[[.s (dZ xs[i]).aQ,.sl ((dZ xs[i]).aj.map ah.enc)]]=T (i+1):=fun i hi=>by
  have:=l9 (base:=hd) (l:=xs.map dZ) (i:=i) (by rw[List.length_map];exact hi);rw[List.getElem_map] at this;rw[hT];exact this
 have hTe:T xs.length=(hd++xs.map dZ).map ah.enc:=by rw[hT];simp only;rw[List.take_of_length_le (by simp)]
 clear hT;rw[<-hT0];rw[<-hTe];refine zcx [.cell 4 39] func104 ntmps104 ?_;simp -implicitDefEqProofs (disch:=omega) only[go_sem];refine DI 1 1 2 (T 0) [.d (.s []),.bA (T 0)] rfl rfl (by rw[hT0];exact iq) ?_
 refine aZ (ι:=Nat) zmx rfl [1,4,5,6] (fun i=>[.c (.d (.sl (xs.map ay.enc))),.c (.ptr (0,0) 0),.c (.ptr (0,1) 0),.c (.d (.i .i64 i))])
  (fun i=>[.box [.d (.s []),.bA []],.box [.d (.s []),.bG (0,2) (T i)],.tok 2 (T i)]::S)
  (fun i=>i<=xs.length) (fun i=>xs.length-i) 0 rfl rfl (Nat.zero_le _) ?_
 intro i hi;have hl:=mF i;simp -implicitDefEqProofs (disch:=omega) only[go_sem]
 with_reducible refine aA (fun hb=> ?_) (fun hb=> ?_)<;>have h:=hb<;>(try simp only[wf_preprocess] at h)<;>simp -implicitDefEqProofs (disch:=omega) only[go_sem,hb]<;>(repeat(with_reducible refine And.intro ?_ ?_;focus first|omega|rfl|assumption|exact⟨_,rfl,rfl⟩|(simp;omega)|(simp;done)))
 ·have hi':i<xs.length:=by omega
  have hs:=hTs i hi'
  (repeat(with_reducible refine And.intro ?_ ?_;focus first|omega|rfl|assumption|exact⟨_,rfl,rfl⟩|(simp;omega)|(simp;done)))
  refine au (hA xs[i] (List.getElem_mem hi')) ?_;simp -implicitDefEqProofs (disch:=omega) only[go_sem]
  (repeat(with_reducible refine And.intro ?_ ?_;focus first|omega|rfl|assumption|exact⟨_,rfl,rfl⟩|(simp;omega)|(simp;done)))
  rw[hs];exact cK (i+1) (by omega) rfl rfl (by omega)
 ·have hi':i=xs.length:=by omega
  subst hi';rfl
theorem Pn(hd:List ah)(xs:List ay)(bg:List Ab.Obj)(Ω:Store)(hA:∀t∈xs,aG prog 42 [t.v] (dZ t).v)(hl:xs.length<=4194304)(hh:hd.length<=4):bD prog 104 [.c (.bA (hd.map ah.enc)),.c (.d (.sl (xs.map ay.enc)))] (bg::Ω)
 (fun r S'=>r=.agg [.d (.s []),.bG (0,bg.length+2) ((hd++xs.map dZ).map ah.enc)]/\S'=(bg++[.box [.d (.s []),.bG (0,bg.length+2) ((hd++xs.map dZ).map ah.enc)],.box [.d (.s []),.bG (0,bg.length+2) ((hd++xs.map dZ).map ah.enc)],.tok 2 ((hd++xs.map dZ).map ah.enc)])::Ω):=by
 obtain⟨T,hT⟩:∃T:Nat->List (List D),T=fun i=>(hd++(xs.map dZ).take i).map ah.enc:=⟨_,rfl⟩
 have hT0:T 0=hd.map ah.enc:=by rw[hT];simp only[List.take_zero,List.append_nil]
 have mF:∀i,(T i).length<=i+hd.length:=fun i=>by
  rw[hT];simp only[List.length_map,List.length_append];have:=List.length_take_le i (xs.map dZ);omega
 have hTs:∀i (hi:i<xs.length),T i++[[.s (dZ xs[i]).aQ,.sl ((dZ xs[i]).aj.map ah.enc)]]=T (i+1):=fun i hi=>by
  have:=l9 (base:=hd) (l:=xs.map dZ) (i:=i) (by rw[List.length_map];exact hi);rw[List.getElem_map] at this;rw[hT];exact this
 have hTe:T xs.length=(hd++xs.map dZ).map ah.enc:=by rw[hT];simp only;rw[List.take_of_length_le (by simp)]
 clear hT;rw[<-hT0];rw[<-hTe];refine DR (rs:=[.cell 4 39]) zmx func104 ntmps104 rfl rfl rfl rfl rfl ?_;simp -implicitDefEqProofs (disch:=omega) only[go_sem];refine DI 1 1 2 (T 0) [.d (.s []),.bA (T 0)] rfl rfl (by rw[hT0];exact iq) ?_
 refine aZ (ι:=Nat) zmx rfl [1,4,5,6] (fun i=>[.c (.d (.sl (xs.map ay.enc))),.c (.ptr (0,0) 0),.c (.ptr (0,1) 0),.c (.d (.i .i64 i))])
  (fun i=>[.box [.d (.s []),.bA []],.box [.d (.s []),.bG (0,2) (T i)],.tok 2 (T i)]::bg::Ω)
  (fun i=>i<=xs.length) (fun i=>xs.length-i) 0 rfl rfl (Nat.zero_le _) ?_
 intro i hi;have hl:=mF i;simp -implicitDefEqProofs (disch:=omega) only[go_sem]
 with_reducible refine aA (fun hb=> ?_) (fun hb=> ?_)<;>have h:=hb<;>(try simp only[wf_preprocess] at h)<;>simp -implicitDefEqProofs (disch:=omega) only[go_sem,hb]<;>(repeat(with_reducible refine And.intro ?_ ?_;focus first|omega|rfl|assumption|exact⟨_,rfl,rfl⟩|(simp;omega)|(simp;done)))
 ·have hi':i<xs.length:=by omega
  have hs:=hTs i hi'
  (repeat(with_reducible refine And.intro ?_ ?_;focus first|omega|rfl|assumption|exact⟨_,rfl,rfl⟩|(simp;omega)|(simp;done)))
  refine au (hA xs[i] (List.getElem_mem hi')) ?_;simp -implicitDefEqProofs (disch:=omega) only[go_sem]
  (repeat(with_reducible refine And.intro ?_ ?_;focus first|omega|rfl|assumption|exact⟨_,rfl,rfl⟩|(simp;omega)|(simp;done)))
  rw[hs];exact cK (i+1) (by omega) rfl rfl (by omega)
 ·have hi':i=xs.length:=by omega
  subst hi';exact⟨rfl,rfl⟩
theorem JC:∀N:Nat,∀x:ay,SizeOf.sizeOf x<N->ig x=true->x.sz<=4194304->aG prog 42 [x.v] (dZ x).v
 |0=>fun x h=>by omega
 |N+1=>by
  have ih:=JC N;intro x hn hok hsz S;have je:=ay.gZ x;have yt:=ay.qC x;have hzz:=sV x;rw[tY,Bool.and_eq_true,Bool.and_eq_true] at hok;obtain⟨hfi,hoa,Pm⟩:=hok;have hfi:=iX hfi;have hoa:=Ay.1 hoa;have Pm:=Cw.1 Pm;have hA:∀t∈x.fArgs,aG prog 42 [t.v] (dZ t).v:=fun t ht=>ih t (by have:=List.sizeOf_lt_of_mem ht;omega) (hoa t ht) (by have:=LK ht;omega);have hxe:=Ei x;refine zcx [.cell 2 39] func42 ntmps42 ?_;simp -implicitDefEqProofs (disch:=omega) only[go_sem]
  with_reducible refine aA (fun hb=> ?_) (fun hb=> ?_)<;>have h:=hb<;>(try simp only[wf_preprocess] at h)<;>simp -implicitDefEqProofs (disch:=omega) only[go_sem,hb]<;>(repeat(with_reducible refine And.intro ?_ ?_;focus first|omega|rfl|assumption|exact⟨_,rfl,rfl⟩|(simp;omega)|(simp;done)))
  ·rw[if_pos h] at hxe;rw[hxe];have hb:=hfi.2.2.2.1;rw[if_pos h] at hb;refine au (sW x.fN (by omega) (by omega)) ?_;simp -implicitDefEqProofs (disch:=omega) only[go_sem];refine au (bQ _) ?_;simp -implicitDefEqProofs (disch:=omega) only[go_sem];rfl
  have k1:=h;rw[if_neg h] at hxe
  with_reducible refine aA (fun hb=> ?_) (fun hb=> ?_)<;>have h:=hb<;>(try simp only[wf_preprocess] at h)<;>simp -implicitDefEqProofs (disch:=omega) only[go_sem,hb]<;>(repeat(with_reducible refine And.intro ?_ ?_;focus first|omega|rfl|assumption|exact⟨_,rfl,rfl⟩|(simp;omega)|(simp;done)))
  ·rw[if_pos h] at hxe;rw[hxe];have hb:=hfi.2.2.2.1;rw[if_neg k1,if_pos h] at hb;rcases hb with e|e
   ·rw[e];simp -implicitDefEqProofs (disch:=omega) only[go_sem,List.getD_cons_zero]
    (repeat(with_reducible refine And.intro ?_ ?_;focus first|omega|rfl|assumption|exact⟨_,rfl,rfl⟩|(simp;omega)|(simp;done)))
    refine au (bQ _) ?_;simp -implicitDefEqProofs (disch:=omega) only[go_sem];rfl
   ·rw[e];simp -implicitDefEqProofs (disch:=omega) only[go_sem,List.getD_cons_zero,List.getD_cons_succ]
    (repeat(with_reducible refine And.intro ?_ ?_;focus first|omega|rfl|assumption|exact⟨_,rfl,rfl⟩|(simp;omega)|(simp;done)))
    refine au (bQ _) ?_;simp -implicitDefEqProofs (disch:=omega) only[go_sem];rfl
  have k2:=h;rw[if_neg h] at hxe
  with_reducible refine aA (fun hb=> ?_) (fun hb=> ?_)<;>have h:=hb<;>(try simp only[wf_preprocess] at h)<;>simp -implicitDefEqProofs (disch:=omega) only[go_sem,hb]<;>(repeat(with_reducible refine And.intro ?_ ?_;focus first|omega|rfl|assumption|exact⟨_,rfl,rfl⟩|(simp;omega)|(simp;done)))
  ·rw[if_pos h] at hxe;rw[hxe];refine au (bQ _) ?_;simp -implicitDefEqProofs (disch:=omega) only[go_sem];rfl
  have k3:=h;clear hxe
  with_reducible refine aA (fun hb=> ?_) (fun hb=> ?_)<;>have h:=hb<;>(try simp only[wf_preprocess] at h)<;>simp -implicitDefEqProofs (disch:=omega) only[go_sem,hb]<;>(repeat(with_reducible refine And.intro ?_ ?_;focus first|omega|rfl|assumption|exact⟨_,rfl,rfl⟩|(simp;omega)|(simp;done)))
  ·have hx:=jE k1 k2 k3 (by omega)
   have hh:gF x.aL x.bE x.fName x.fType=[bn lW,bn x.fName]:=by rw[iV h];rfl
   rw[hh] at hx;refine au (bQ _) ?_;simp -implicitDefEqProofs (disch:=omega) only[go_sem];refine au (bQ _) ?_;simp -implicitDefEqProofs (disch:=omega) only[go_sem];have hE:=fun S=>ng [bn lW,bn x.fName] x.fArgs S hA (by omega) (by simp);simp only[List.map_cons,List.map_nil,fP] at hE;refine bB rfl (hE _) ?_;simp -implicitDefEqProofs (disch:=omega) only[go_sem];rw[hx];rfl
  have k4:=h
  with_reducible refine aA (fun hb=> ?_) (fun hb=> ?_)<;>have h:=hb<;>(try simp only[wf_preprocess] at h)<;>simp -implicitDefEqProofs (disch:=omega) only[go_sem,hb]<;>(repeat(with_reducible refine And.intro ?_ ?_;focus first|omega|rfl|assumption|exact⟨_,rfl,rfl⟩|(simp;omega)|(simp;done)))
  ·have hx:=jE k1 k2 k3 (by omega)
   have hh:gF x.aL x.bE x.fName x.fType=[bn gJ,bn x.bE,bn x.fName]:=by rw[iV h];rfl
   rw[hh] at hx;refine au (bQ _) ?_;simp -implicitDefEqProofs (disch:=omega) only[go_sem];refine au (bQ _) ?_;simp -implicitDefEqProofs (disch:=omega) only[go_sem];refine au (bQ _) ?_;simp -implicitDefEqProofs (disch:=omega) only[go_sem];have hE:=fun S=>ng [bn gJ,bn x.bE,bn x.fName] x.fArgs S hA (by omega) (by simp);simp only[List.map_cons,List.map_nil,fP] at hE;refine bB rfl (hE _) ?_;simp -implicitDefEqProofs (disch:=omega) only[go_sem];rw[hx];rfl
  have k5:=h
  with_reducible refine aA (fun hb=> ?_) (fun hb=> ?_)<;>have h:=hb<;>(try simp only[wf_preprocess] at h)<;>simp -implicitDefEqProofs (disch:=omega) only[go_sem,hb]<;>(repeat(with_reducible refine And.intro ?_ ?_;focus first|omega|rfl|assumption|exact⟨_,rfl,rfl⟩|(simp;omega)|(simp;done)))
  ·have hx:=jE k1 k2 k3 (by omega)
   have hh:gF x.aL x.bE x.fName x.fType=[bn oC,bn x.fName]:=by rw[iV h];rfl
   rw[hh] at hx;refine au (bQ _) ?_;simp -implicitDefEqProofs (disch:=omega) only[go_sem];refine au (bQ _) ?_;simp -implicitDefEqProofs (disch:=omega) only[go_sem];have hE:=fun S=>ng [bn oC,bn x.fName] x.fArgs S hA (by omega) (by simp);simp only[List.map_cons,List.map_nil,fP] at hE;refine bB rfl (hE _) ?_;simp -implicitDefEqProofs (disch:=omega) only[go_sem];rw[hx];rfl
  have k6:=h
  with_reducible refine aA (fun hb=> ?_) (fun hb=> ?_)<;>have h:=hb<;>(try simp only[wf_preprocess] at h)<;>simp -implicitDefEqProofs (disch:=omega) only[go_sem,hb]<;>(repeat(with_reducible refine And.intro ?_ ?_;focus first|omega|rfl|assumption|exact⟨_,rfl,rfl⟩|(simp;omega)|(simp;done)))
  ·have hx:=jE k1 k2 k3 (by omega)
   have hh:gF x.aL x.bE x.fName x.fType=[bn oD,bn x.fName]:=by rw[iV h];rfl
   rw[hh] at hx;refine au (bQ _) ?_;simp -implicitDefEqProofs (disch:=omega) only[go_sem];refine au (bQ _) ?_;simp -implicitDefEqProofs (disch:=omega) only[go_sem];have hE:=fun S=>ng [bn oD,bn x.fName] x.fArgs S hA (by omega) (by simp);simp only[List.map_cons,List.map_nil,fP] at hE;refine bB rfl (hE _) ?_;simp -implicitDefEqProofs (disch:=omega) only[go_sem];rw[hx];rfl
  have k8:=h
  with_reducible refine aA (fun hb=> ?_) (fun hb=> ?_)<;>have h:=hb<;>(try simp only[wf_preprocess] at h)<;>simp -implicitDefEqProofs (disch:=omega) only[go_sem,hb]<;>(repeat(with_reducible refine And.intro ?_ ?_;focus first|omega|rfl|assumption|exact⟨_,rfl,rfl⟩|(simp;omega)|(simp;done)))
  ·have hx:=jE k1 k2 k3 (by omega)
   have hh:gF x.aL x.bE x.fName x.fType=[bn sD]:=by rw[iV h];rfl
   rw[hh] at hx;refine au (bQ _) ?_;simp -implicitDefEqProofs (disch:=omega) only[go_sem];have hE:=fun S=>ng [bn sD] x.fArgs S hA (by omega) (by simp);simp only[List.map_cons,List.map_nil,fP] at hE;refine bB rfl (hE _) ?_;simp -implicitDefEqProofs (disch:=omega) only[go_sem];rw[hx];rfl
  have k9:=h
  with_reducible refine aA (fun hb=> ?_) (fun hb=> ?_)<;>have h:=hb<;>(try simp only[wf_preprocess] at h)<;>simp -implicitDefEqProofs (disch:=omega) only[go_sem,hb]<;>(repeat(with_reducible refine And.intro ?_ ?_;focus first|omega|rfl|assumption|exact⟨_,rfl,rfl⟩|(simp;omega)|(simp;done)))
  ·have hx:=jE k1 k2 k3 (by omega)
   have hh:gF x.aL x.bE x.fName x.fType=[bn x.fName]:=by rw[iV h];rfl
   rw[hh] at hx;refine au (bQ _) ?_;simp -implicitDefEqProofs (disch:=omega) only[go_sem];have hE:=fun S=>ng [bn x.fName] x.fArgs S hA (by omega) (by simp);simp only[List.map_cons,List.map_nil,fP] at hE;refine bB rfl (hE _) ?_;simp -implicitDefEqProofs (disch:=omega) only[go_sem];rw[hx];rfl
  have k10:=h
  with_reducible refine aA (fun hb=> ?_) (fun hb=> ?_)<;>have h:=hb<;>(try simp only[wf_preprocess] at h)<;>simp -implicitDefEqProofs (disch:=omega) only[go_sem,hb]<;>(repeat(with_reducible refine And.intro ?_ ?_;focus first|omega|rfl|assumption|exact⟨_,rfl,rfl⟩|(simp;omega)|(simp;done)))
  ·have hx:=jE k1 k2 k3 (by omega)
   have hh:gF x.aL x.bE x.fName x.fType=[bn lX,bn x.bE]:=by rw[iV h];rfl
   rw[hh] at hx;refine au (bQ _) ?_;simp -implicitDefEqProofs (disch:=omega) only[go_sem];refine au (bQ _) ?_;simp -implicitDefEqProofs (disch:=omega) only[go_sem];have hE:=fun S=>ng [bn lX,bn x.bE] x.fArgs S hA (by omega) (by simp);simp only[List.map_cons,List.map_nil,fP] at hE;refine bB rfl (hE _) ?_;simp -implicitDefEqProofs (disch:=omega) only[go_sem];rw[hx];rfl
  have k11:=h
  with_reducible refine aA (fun hb=> ?_) (fun hb=> ?_)<;>have h:=hb<;>(try simp only[wf_preprocess] at h)<;>simp -implicitDefEqProofs (disch:=omega) only[go_sem,hb]<;>(repeat(with_reducible refine And.intro ?_ ?_;focus first|omega|rfl|assumption|exact⟨_,rfl,rfl⟩|(simp;omega)|(simp;done)))
  ·have hx:=jE k1 k2 k3 (by omega)
   have hh:gF x.aL x.bE x.fName x.fType=[bn pq,dK x.fType]:=by rw[iV h];rfl
   rw[hh] at hx;refine au (bQ _) ?_;simp -implicitDefEqProofs (disch:=omega) only[go_sem];refine au (wT x.fType (by omega)) ?_;simp -implicitDefEqProofs (disch:=omega) only[go_sem];have hE:=fun S=>ng [bn pq,dK x.fType] x.fArgs S hA (by omega) (by simp);simp only[List.map_cons,List.map_nil,fP,ah.aB (dK x.fType)] at hE;refine bB rfl (hE _) ?_;simp -implicitDefEqProofs (disch:=omega) only[go_sem];rw[hx];show _=V.agg [.d (.s []),.d (.sl (List.map ah.enc (bn pq::dK x.fType::x.fArgs.map dZ)))];simp only[List.cons_append,List.nil_append,List.map_cons,fP,ah.aB (dK x.fType)];rfl
  have k12:=h
  have hk7:x.aL=7:=by have:=hfi.1;omega
  have hx:=Ei x;rw[if_neg k1,if_neg k2,if_neg k3,if_neg (by omega)] at hx
  have hh:gF x.aL x.bE x.fName x.fType=[bn jf]:=by rw[iV hk7];rfl
  rw[hh] at hx;refine au (bQ _) ?_;simp -implicitDefEqProofs (disch:=omega) only[go_sem];have hE:=fun bg Ω=>Pn [bn jf] x.fArgs bg Ω hA (by omega) (by simp);obtain⟨B,hB⟩:∃B:Nat->List (List D),B=fun i=>(([bn jf]++x.fArgs.map dZ)++(x.aK.map vw).take i).map ah.enc:=⟨_,rfl⟩
  have hB0:([bn jf]++x.fArgs.map dZ).map ah.enc=B 0:=by rw[hB];simp only[List.take_zero,List.append_nil]
  have hBl:∀i,(B i).length<=i+x.fArgs.length+1:=fun i=>by
   rw[hB];simp only[List.length_append,List.length_map,List.length_cons,List.length_nil];have:=List.length_take_le i (x.aK.map vw);omega
  have hBr:∀i,∀r∈B i,r.length=2:=fun i=>by rw[hB];exact iq
  have SA:∀i (hi:i<x.aK.length),B i++[[.s [],.sl (([bn x.aK[i].bS]++aP x.aK[i].aX++[dZ x.aK[i].fBody]).map ah.enc)]]=B (i+1):=fun i hi=>by
   have:=l9 (base:=[bn jf]++x.fArgs.map dZ) (l:=x.aK.map vw) (i:=i) (by rw[List.length_map];exact hi);rw[List.getElem_map,YB,eu,dX] at this;rw[hB];exact this
  have hBe:B x.aK.length=([bn jf]++x.fArgs.map dZ++x.aK.map vw).map ah.enc:=by rw[hB];simp only;rw[List.take_of_length_le (by simp)]
  clear hB;simp only[hB0] at hE;simp only[List.map_cons,List.map_nil,fP] at hE;refine bB rfl (hE _ _) ?_;simp -implicitDefEqProofs (disch:=omega) only[go_sem]
  refine aZ (ι:=Nat) zmx rfl [1,2,3,4] (fun i=>[.c (.ptr (0,0) 0),.c (.ptr (0,1) 0),.c (.ptr (0,5) 0),.c (.d (.i .i64 i))])
   (fun i=>[.box [.d (.i .i64 x.aL),.d (.s x.bE),.d (.s x.fName),.d (.i .i64 x.fN),.d (.i .i64 x.fType.aL),.d (.s x.fType.fName),.d (.sl (x.fType.fArgs.map ak.enc)),.d (.sl (x.fArgs.map ay.enc)),.d (.sl (x.aK.map aM.enc))],.box [.d (.s []),.bA []],.box [.d (.s []),.bG (0,4) (B 0)],.box [.d (.s []),.bG (0,4) (B 0)],.tok 2 (B i),.box [.d (.s []),.bG (0,4) (B i)]]::S)
   (fun i=>i<=x.aK.length) (fun i=>x.aK.length-i) 0 rfl rfl (Nat.zero_le _) ?_
  intro i hi;have hl:=hBl i;have hr:=hBr i;simp -implicitDefEqProofs (disch:=omega) only[go_sem]
  with_reducible refine aA (fun hb=> ?_) (fun hb=> ?_)<;>have h:=hb<;>(try simp only[wf_preprocess] at h)<;>simp -implicitDefEqProofs (disch:=omega) only[go_sem,hb]<;>(repeat(with_reducible refine And.intro ?_ ?_;focus first|omega|rfl|assumption|exact⟨_,rfl,rfl⟩|(simp;omega)|(simp;done)))
  ·have hi':i<x.aK.length:=by omega
   have hm:=List.getElem_mem hi';have hez:=JA hm;have hea:=wU x.aK[i];have hs:=SA i hi';have hak:=Pm _ hm;rw[oz,Bool.and_eq_true,Bool.and_eq_true] at hak;have hls:=List.sizeOf_lt_of_mem hm;have hlb:=aM.oO x.aK[i]
   (repeat(with_reducible refine And.intro ?_ ?_;focus first|omega|rfl|assumption|exact⟨_,rfl,rfl⟩|(simp;omega)|(simp;done)))
   refine au (bQ _) ?_;simp -implicitDefEqProofs (disch:=omega) only[go_sem]
   (repeat(with_reducible refine And.intro ?_ ?_;focus first|omega|rfl|assumption|exact⟨_,rfl,rfl⟩|(simp;omega)|(simp;done)))
   refine au (Ef x.aK[i].aX (by omega)) ?_;have hwr:=iq (l:=aP x.aK[i].aX)
   have hwl:(aP x.aK[i].aX).length=x.aK[i].aX.length:=by rw[kC]
   simp -implicitDefEqProofs (disch:=omega) only[go_sem]
   (repeat(with_reducible refine And.intro ?_ ?_;focus first|omega|rfl|assumption|exact⟨_,rfl,rfl⟩|(simp;omega)|(simp;done)))
   refine au (ih x.aK[i].fBody (by omega) hak.2.2 (by omega)) ?_;simp -implicitDefEqProofs (disch:=omega) only[go_sem]
   (repeat(with_reducible refine And.intro ?_ ?_;focus first|omega|rfl|assumption|exact⟨_,rfl,rfl⟩|(simp;omega)|(simp;done)))
   simp only[List.cons_append,List.nil_append,List.map_cons,List.map_nil,List.map_append,fP,ah.aB (dZ x.aK[i].fBody)] at hs;rw[hs];exact dD 6 (by decide) (i+1) (by omega) rfl rfl rfl rfl (by omega)
  ·have hi':i=x.aK.length:=by omega
   subst hi';rw[hx,hBe];rfl
theorem Em(x:ay)(hok:ig x=true)(hsz:x.sz<=4194304):aG prog 42 [x.v] (dZ x).v:=JC _ x (Nat.lt_succ_self _) hok hsz
end Go.Ab