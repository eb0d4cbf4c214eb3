/-
  SEVERAL TEXTS IN ONE (merged by program): contracts and models, each with its own heading.
-/
import Derived.Test.YtnceiannponbjaaGreatDoorPartDlbG
set_option maxHeartbeats 8000000
open Go.Proofs Go.Proofs.Tryz
set_option linter.unusedSimpArgs false
set_option linter.unusedVariables false
set_option maxRecDepth 4000
namespace Go.Ab
theorem aC.bounds{x:aC}(h:x.sz<=4194304):x.bg.length<=4194304/\x.fName.length<=4194304/\x.fArgs.length<=4194304/\x.aO.length<=4194304/\x.fType.sz<=4194304:=by
 simp only[aC.sz,aC.aB,bL,bZ,D.sz,List.length_map,au.dz] at h;omega
theorem aC.arg_b{x:aC}{i:Nat}(hi:i<x.fArgs.length)(h:x.sz<=4194304):x.fArgs[i].sz<=4194304:=by
 have hx:x.fArgs[i].sz<=bB (x.fArgs.map aC.enc):=gT (List.mem_map_of_mem (List.getElem_mem hi));simp only[aC.sz,aC.aB,bL,bZ,D.sz,List.length_map] at h;omega
theorem aC.Oq{x:aC}{i:Nat}(hi:i<x.aO.length)(h:x.sz<=4194304):x.aO[i].sz<=4194304:=by
 have hx:x.aO[i].sz<=bB (x.aO.map aP.enc):=gT (List.mem_map_of_mem (List.getElem_mem hi));simp only[aC.sz,aC.aB,bL,bZ,D.sz,List.length_map] at h;omega
theorem aP.bounds{x:aP}(h:x.sz<=4194304):x.bU.length<=4194304/\x.aK.length<=4194304/\(∀s∈x.aK,s.length<=4194304)/\x.fBody.sz<=4194304:=by
 have hb:=aP.LD x;simp only[aP.sz,aP.aB,bL,bZ,D.sz,List.length_map] at h hb;refine⟨by omega,by omega,fun s hs=> ?_,by omega⟩;have:=Co hs;omega
theorem KD(k:Int):(k<1\/12<k)\/k=1\/k=2\/k=3\/k=4\/k=5\/k=6\/k=7\/k=8\/k=9\/k=10\/k=11\/k=12:=by omega
theorem QI(x:aC)(hsz:x.sz<=4194304)(hc:x.fArgs.length<=300):aJ prog 202 [x.v] (.c (.d (.b (dec (rE x))))):=fun S=>by
 have hb0:=aC.bounds hsz;have hz:uq x.fType->lK x.fType=false:=Ki;rcases KD x.aI with hk|hk|hk|hk|hk|hk|hk|hk|hk|hk|hk|hk|hk
 ·have h1:¬rE x:=fun h=>by have:=h.1;omega
  refine zcx [.tmp 2] func202 ntmps202 ?_;simp -implicitDefEqProofs (disch:=omega) only[go_sem];refine aA (Ht x.aI) ?_;simp -implicitDefEqProofs (disch:=omega) only[go_sem]<;>(repeat(with_reducible refine And.intro ?_ ?_;focus first|omega|rfl|assumption|exact⟨_,rfl,rfl⟩|(simp;omega)|(simp;done)))
  with_reducible refine aD (fun hb=> ?_) (fun hb=> ?_)<;>have h:=hb<;>(try simp only[wf_preprocess] at h)<;>simp -implicitDefEqProofs (disch:=omega) only[go_sem,hb]<;>(repeat(with_reducible refine And.intro ?_ ?_;focus first|omega|rfl|assumption|exact⟨_,rfl,rfl⟩|(simp;omega)|(simp;done)))
  ·exact aY (bI h1).symm
  with_reducible refine aD (fun hb=> ?_) (fun hb=> ?_)<;>have h:=hb<;>(try simp only[wf_preprocess] at h)<;>simp -implicitDefEqProofs (disch:=omega) only[go_sem,hb]<;>(repeat(with_reducible refine And.intro ?_ ?_;focus first|omega|rfl|assumption|exact⟨_,rfl,rfl⟩|(simp;omega)|(simp;done)))
  ·exact aY (bI h1).symm
  ·omega
 all_goals
  refine zcx [.tmp 2] func202 ntmps202 ?_;simp -implicitDefEqProofs (disch:=omega) only[go_sem,hk];refine aA (Ht _) ?_;simp -implicitDefEqProofs (disch:=omega) only[go_sem,hk,Ws,Wt]
  repeat' (first
   |with_reducible refine aD (fun hb=> ?_) (fun hb=> ?_)<;>have h:=hb<;>(try simp only[wf_preprocess] at h)<;>simp -implicitDefEqProofs (disch:=omega) only[go_sem,hb,hk]<;>(repeat(with_reducible refine And.intro ?_ ?_;focus first|omega|rfl|assumption|exact⟨_,rfl,rfl⟩|(simp;omega)|(simp;done)))
   |((with_reducible show gH _ _ 43 _ _ _ _);refine aA (kE x.fName (by omega)) ?_;simp -implicitDefEqProofs (disch:=omega) only[go_sem,hk])
   |((with_reducible show gH _ _ 43 _ _ _ _);refine aA (kE x.bg (by omega)) ?_;simp -implicitDefEqProofs (disch:=omega) only[go_sem,hk])
   |((with_reducible show gH _ _ 227 _ _ _ _);refine aA (NR x.fName) ?_;simp -implicitDefEqProofs (disch:=omega) only[go_sem,hk])
   |((with_reducible show gH _ _ 84 _ _ _ _);refine aA (Ed x.fType) ?_;simp -implicitDefEqProofs (disch:=omega) only[go_sem,hk])
   |((with_reducible show gH _ _ 115 _ _ _ _);refine aA (uI x.fType (by omega)) ?_;simp -implicitDefEqProofs (disch:=omega) only[go_sem,hk])
   |(refine aY (Bool.eq_iff_iff.2 ?_);simp only[xG,rE,hk];grind [gF,jR,bT,bI]))
end Go.Ab