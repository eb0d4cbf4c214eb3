/-
  SEVERAL TEXTS IN ONE (merged by program): contracts and models, each with its own heading.
-/
import Derived.Test.YtnceiannponbjaaGreatDoorPartDkbG
set_option maxHeartbeats 8000000
open Go.Proofs Go.Proofs.Tryz
set_option linter.unusedSimpArgs false
set_option linter.unusedVariables false
set_option maxRecDepth 4000
namespace Go.Ab
theorem ay.bounds{x:ay}(h:x.sz<=4194304):x.bE.length<=4194304/\x.fName.length<=4194304/\x.fArgs.length<=4194304/\x.aK.length<=4194304/\x.fType.sz<=4194304:=by
 simp only[ay.sz,ay.aB,bN,bR,D.sz,List.length_map,ak.dQ] at h;omega
theorem ay.arg_b{x:ay}{i:Nat}(hi:i<x.fArgs.length)(h:x.sz<=4194304):x.fArgs[i].sz<=4194304:=by
 have hx:x.fArgs[i].sz<=bC (x.fArgs.map ay.enc):=fI (List.mem_map_of_mem (List.getElem_mem hi));simp only[ay.sz,ay.aB,bN,bR,D.sz,List.length_map] at h;omega
theorem ay.Nc{x:ay}{i:Nat}(hi:i<x.aK.length)(h:x.sz<=4194304):x.aK[i].sz<=4194304:=by
 have hx:x.aK[i].sz<=bC (x.aK.map aM.enc):=fI (List.mem_map_of_mem (List.getElem_mem hi));simp only[ay.sz,ay.aB,bN,bR,D.sz,List.length_map] at h;omega
theorem aM.bounds{x:aM}(h:x.sz<=4194304):x.bS.length<=4194304/\x.aX.length<=4194304/\(∀s∈x.aX,s.length<=4194304)/\x.fBody.sz<=4194304:=by
 have hb:=aM.Kz x;simp only[aM.sz,aM.aB,bN,bR,D.sz,List.length_map] at h hb;refine⟨by omega,by omega,fun s hs=> ?_,by omega⟩;have:=Bf hs;omega
theorem JD(k:Int):(k<1\/12<k)\/k=1\/k=2\/k=3\/k=4\/k=5\/k=6\/k=7\/k=8\/k=9\/k=10\/k=11\/k=12:=by omega
theorem Po(x:ay)(hsz:x.sz<=4194304)(hc:x.fArgs.length<=300):aG prog 202 [x.v] (.c (.d (.b (dec (qE x))))):=fun S=>by
 have hb0:=ay.bounds hsz;have hz:zV x.fType->rC x.fType=false:=Jm;rcases JD x.aL with hk|hk|hk|hk|hk|hk|hk|hk|hk|hk|hk|hk|hk
 ·have h1:¬qE x:=fun h=>by have:=h.1;omega
  refine zcx [.tmp 2] func202 ntmps202 ?_;simp -implicitDefEqProofs (disch:=omega) only[go_sem];refine au (FZ x.aL) ?_;simp -implicitDefEqProofs (disch:=omega) only[go_sem]<;>(repeat(with_reducible refine And.intro ?_ ?_;focus first|omega|rfl|assumption|exact⟨_,rfl,rfl⟩|(simp;omega)|(simp;done)))
  with_reducible refine aA (fun hb=> ?_) (fun hb=> ?_)<;>have h:=hb<;>(try simp only[wf_preprocess] at h)<;>simp -implicitDefEqProofs (disch:=omega) only[go_sem,hb]<;>(repeat(with_reducible refine And.intro ?_ ?_;focus first|omega|rfl|assumption|exact⟨_,rfl,rfl⟩|(simp;omega)|(simp;done)))
  ·exact aI (aO h1).symm
  with_reducible refine aA (fun hb=> ?_) (fun hb=> ?_)<;>have h:=hb<;>(try simp only[wf_preprocess] at h)<;>simp -implicitDefEqProofs (disch:=omega) only[go_sem,hb]<;>(repeat(with_reducible refine And.intro ?_ ?_;focus first|omega|rfl|assumption|exact⟨_,rfl,rfl⟩|(simp;omega)|(simp;done)))
  ·exact aI (aO h1).symm
  ·omega
 all_goals
  refine zcx [.tmp 2] func202 ntmps202 ?_;simp -implicitDefEqProofs (disch:=omega) only[go_sem,hk];refine au (FZ _) ?_;simp -implicitDefEqProofs (disch:=omega) only[go_sem,hk,U8,U9]
  repeat' (first
   |with_reducible refine aA (fun hb=> ?_) (fun hb=> ?_)<;>have h:=hb<;>(try simp only[wf_preprocess] at h)<;>simp -implicitDefEqProofs (disch:=omega) only[go_sem,hb,hk]<;>(repeat(with_reducible refine And.intro ?_ ?_;focus first|omega|rfl|assumption|exact⟨_,rfl,rfl⟩|(simp;omega)|(simp;done)))
   |((with_reducible show lU _ _ 43 _ _ _ _);refine au (jY x.fName (by omega)) ?_;simp -implicitDefEqProofs (disch:=omega) only[go_sem,hk])
   |((with_reducible show lU _ _ 43 _ _ _ _);refine au (jY x.bE (by omega)) ?_;simp -implicitDefEqProofs (disch:=omega) only[go_sem,hk])
   |((with_reducible show lU _ _ 227 _ _ _ _);refine au (MK x.fName) ?_;simp -implicitDefEqProofs (disch:=omega) only[go_sem,hk])
   |((with_reducible show lU _ _ 84 _ _ _ _);refine au (ML x.fType) ?_;simp -implicitDefEqProofs (disch:=omega) only[go_sem,hk])
   |((with_reducible show lU _ _ 115 _ _ _ _);refine au (zk x.fType (by omega)) ?_;simp -implicitDefEqProofs (disch:=omega) only[go_sem,hk])
   |(refine aI (Bool.eq_iff_iff.2 ?_);simp only[wh,qE,hk];grind [iX,rz,bJ,aO]))
end Go.Ab