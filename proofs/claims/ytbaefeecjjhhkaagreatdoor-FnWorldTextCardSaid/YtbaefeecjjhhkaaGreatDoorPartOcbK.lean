/-
  SEVERAL TEXTS IN ONE (merged by program): contracts and models, each with its own heading.
-/
import Derived.Test.YtbaefeecjjhhkaaGreatDoorPartOcbG
set_option maxHeartbeats 8000000
open Go.Proofs Go.Proofs.Tryz
set_option linter.unusedSimpArgs false
set_option linter.unusedVariables false
set_option maxRecDepth 4000
namespace Go.Ab
theorem ay.bounds{x:ay}(h:x.sz<=4194304):x.bG.length<=4194304/\x.fName.length<=4194304/\x.fArgs.length<=4194304/\x.aS.length<=4194304/\x.fType.sz<=4194304:=by
 simp only[ay.sz,ay.aQ,dz,bW,D.sz,List.length_map,ak.iD] at h;omega
theorem ay.arg_b{x:ay}{i:Nat}(hi:i<x.fArgs.length)(h:x.sz<=4194304):x.fArgs[i].sz<=4194304:=by
 have hx:x.fArgs[i].sz<=bf (x.fArgs.map ay.enc):=cB (List.mem_map_of_mem (List.getElem_mem hi));simp only[ay.sz,ay.aQ,dz,bW,D.sz,List.length_map] at h;omega
theorem ay.UM{x:ay}{i:Nat}(hi:i<x.aS.length)(h:x.sz<=4194304):x.aS[i].sz<=4194304:=by
 have hx:x.aS[i].sz<=bf (x.aS.map aZ.enc):=cB (List.mem_map_of_mem (List.getElem_mem hi));simp only[ay.sz,ay.aQ,dz,bW,D.sz,List.length_map] at h;omega
theorem aZ.bounds{x:aZ}(h:x.sz<=4194304):x.dO.length<=4194304/\x.aF.length<=4194304/\(∀s∈x.aF,s.length<=4194304)/\x.fBody.sz<=4194304:=by
 have hb:=aZ.Q6 x;simp only[aZ.sz,aZ.aQ,dz,bW,D.sz,List.length_map] at h hb;refine⟨by omega,by omega,fun s hs=> ?_,by omega⟩;have:=sD hs;omega
theorem Py(k:Int):(k<1\/12<k)\/k=1\/k=2\/k=3\/k=4\/k=5\/k=6\/k=7\/k=8\/k=9\/k=10\/k=11\/k=12:=by omega
theorem WW(x:ay)(hsz:x.sz<=4194304)(hc:x.fArgs.length<=300):aC prog 274 [x.v] (.c (.d (.b (dec (vJ x))))):=fun S=>by
 have hb0:=ay.bounds hsz;have hz:xY x.fType->oo x.fType=false:=OZ;rcases Py x.aM with hk|hk|hk|hk|hk|hk|hk|hk|hk|hk|hk|hk|hk
 ·have h1:¬vJ x:=fun h=>by have:=h.1;omega
  refine zcx [.tmp 2] func274 ntmps274 ?_;refine W1 ?_;refine C2 (MC x.aM) ?_;refine S0 (fun hb h=>?_) fun hb h=>?_
  ·exact aH (aK h1).symm
  refine S0 (fun hb h=>?_) fun hb h=>?_
  ·exact aH (aK h1).symm
  ·omega
 all_goals
  refine zcx [.tmp 2] func274 ntmps274 ?_;simp -implicitDefEqProofs (disch:=omega) only[go_sem,hk];refine aX (MC _) ?_;simp -implicitDefEqProofs (disch:=omega) only[go_sem,hk,ach,aci]
  repeat' (first
   |with_reducible refine dZ (fun hb=> ?_) (fun hb=> ?_)<;>have h:=hb<;>(try simp only[wf_preprocess] at h)<;>simp -implicitDefEqProofs (disch:=omega) only[go_sem,hb,hk]<;>refine W3 ?_
   |((with_reducible show fA _ _ 103 _ _ _ _);refine aX (iI x.fName (by omega)) ?_;simp -implicitDefEqProofs (disch:=omega) only[go_sem,hk])
   |((with_reducible show fA _ _ 103 _ _ _ _);refine aX (iI x.bG (by omega)) ?_;simp -implicitDefEqProofs (disch:=omega) only[go_sem,hk])
   |((with_reducible show fA _ _ 291 _ _ _ _);refine aX (Uk x.fName) ?_;simp -implicitDefEqProofs (disch:=omega) only[go_sem,hk])
   |((with_reducible show fA _ _ 171 _ _ _ _);refine aX (Jo x.fType) ?_;simp -implicitDefEqProofs (disch:=omega) only[go_sem,hk])
   |((with_reducible show fA _ _ 215 _ _ _ _);refine aX (yx x.fType (by omega)) ?_;simp -implicitDefEqProofs (disch:=omega) only[go_sem,hk])
   |(refine aH (Bool.eq_iff_iff.2 ?_);simp only[Bh,vJ,hk];grind [gq,jc,bD,aK]))
end Go.Ab