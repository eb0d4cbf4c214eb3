/-
  SEVERAL TEXTS IN ONE (merged by program): contracts and models, each with its own heading.
-/
import Derived.Test.YtnceiannponbjaaGreatDoorPartDjbG
set_option maxHeartbeats 8000000
open Go.Proofs Go.Proofs.Tryz
set_option linter.unusedSimpArgs false
set_option linter.unusedVariables false
set_option maxRecDepth 4000
namespace Go.Ab
theorem au.bounds{x:au}(h:x.sz<=4194304):x.aZ.length<=4194304/\x.fName.length<=4194304/\x.fArgs.length<=4194304/\x.aI.length<=4194304/\x.fType.sz<=4194304:=by
 simp only[au.sz,au.aB,bG,bQ,D.sz,List.length_map,ak.bZ] at h;omega
theorem au.arg_b{x:au}{i:Nat}(hi:i<x.fArgs.length)(h:x.sz<=4194304):x.fArgs[i].sz<=4194304:=by
 have hx:x.fArgs[i].sz<=bA (x.fArgs.map au.enc):=gD (List.mem_map_of_mem (List.getElem_mem hi));simp only[au.sz,au.aB,bG,bQ,D.sz,List.length_map] at h;omega
theorem au.NI{x:au}{i:Nat}(hi:i<x.aI.length)(h:x.sz<=4194304):x.aI[i].sz<=4194304:=by
 have hx:x.aI[i].sz<=bA (x.aI.map aJ.enc):=gD (List.mem_map_of_mem (List.getElem_mem hi));simp only[au.sz,au.aB,bG,bQ,D.sz,List.length_map] at h;omega
theorem aJ.bounds{x:aJ}(h:x.sz<=4194304):x.bO.length<=4194304/\x.aW.length<=4194304/\(∀s∈x.aW,s.length<=4194304)/\x.fBody.sz<=4194304:=by
 have hb:=aJ.KP x;simp only[aJ.sz,aJ.aB,bG,bQ,D.sz,List.length_map] at h hb;refine⟨by omega,by omega,fun s hs=> ?_,by omega⟩;have:=Jt hs;omega
theorem JR(k:Int):(k<1\/12<k)\/k=1\/k=2\/k=3\/k=4\/k=5\/k=6\/k=7\/k=8\/k=9\/k=10\/k=11\/k=12:=by omega
theorem Qc(x:au)(hsz:x.sz<=4194304)(hc:x.fArgs.length<=300):aG prog 202 [x.v] (.c (.d (.b (dec (qh x))))):=fun S=>by
 have hb0:=au.bounds hsz;have hz:Ag x.fType->lF x.fType=false:=Jz;rcases JR x.aH with hk|hk|hk|hk|hk|hk|hk|hk|hk|hk|hk|hk|hk
 ·have h1:¬qh x:=fun h=>by have:=h.1;omega
  refine zcx [.tmp 2] func202 ntmps202 ?_;simp -implicitDefEqProofs (disch:=omega) only[go_sem];refine ay (Gf x.aH) ?_;simp -implicitDefEqProofs (disch:=omega) only[go_sem]<;>(repeat(with_reducible refine And.intro ?_ ?_;focus first|omega|rfl|assumption|exact⟨_,rfl,rfl⟩|(simp;omega)|(simp;done)))
  with_reducible refine aA (fun hb=> ?_) (fun hb=> ?_)<;>have h:=hb<;>(try simp only[wf_preprocess] at h)<;>simp -implicitDefEqProofs (disch:=omega) only[go_sem,hb]<;>(repeat(with_reducible refine And.intro ?_ ?_;focus first|omega|rfl|assumption|exact⟨_,rfl,rfl⟩|(simp;omega)|(simp;done)))
  ·exact aQ (bJ h1).symm
  with_reducible refine aA (fun hb=> ?_) (fun hb=> ?_)<;>have h:=hb<;>(try simp only[wf_preprocess] at h)<;>simp -implicitDefEqProofs (disch:=omega) only[go_sem,hb]<;>(repeat(with_reducible refine And.intro ?_ ?_;focus first|omega|rfl|assumption|exact⟨_,rfl,rfl⟩|(simp;omega)|(simp;done)))
  ·exact aQ (bJ h1).symm
  ·omega
 all_goals
  refine zcx [.tmp 2] func202 ntmps202 ?_;simp -implicitDefEqProofs (disch:=omega) only[go_sem,hk];refine ay (Gf _) ?_;simp -implicitDefEqProofs (disch:=omega) only[go_sem,hk,VL,VN]
  repeat' (first
   |with_reducible refine aA (fun hb=> ?_) (fun hb=> ?_)<;>have h:=hb<;>(try simp only[wf_preprocess] at h)<;>simp -implicitDefEqProofs (disch:=omega) only[go_sem,hb,hk]<;>(repeat(with_reducible refine And.intro ?_ ?_;focus first|omega|rfl|assumption|exact⟨_,rfl,rfl⟩|(simp;omega)|(simp;done)))
   |((with_reducible show gB _ _ 43 _ _ _ _);refine ay (jJ x.fName (by omega)) ?_;simp -implicitDefEqProofs (disch:=omega) only[go_sem,hk])
   |((with_reducible show gB _ _ 43 _ _ _ _);refine ay (jJ x.aZ (by omega)) ?_;simp -implicitDefEqProofs (disch:=omega) only[go_sem,hk])
   |((with_reducible show gB _ _ 227 _ _ _ _);refine ay (M9 x.fName) ?_;simp -implicitDefEqProofs (disch:=omega) only[go_sem,hk])
   |((with_reducible show gB _ _ 84 _ _ _ _);refine ay (Na x.fType) ?_;simp -implicitDefEqProofs (disch:=omega) only[go_sem,hk])
   |((with_reducible show gB _ _ 115 _ _ _ _);refine ay (sM x.fType (by omega)) ?_;simp -implicitDefEqProofs (disch:=omega) only[go_sem,hk])
   |(refine aQ (Bool.eq_iff_iff.2 ?_);simp only[wB,qh,hk];grind [iR,mV,dx,bJ]))
end Go.Ab