/-
  SEVERAL TEXTS IN ONE (merged by program): contracts and models, each with its own heading.
-/
import Derived.Test.YtlaaknnkeidlbaaGreatDoorPartDmbI
set_option maxHeartbeats 8000000
open Go.Proofs Go.Proofs.Tryz
set_option linter.unusedSimpArgs false
set_option linter.unusedVariables false
set_option maxRecDepth 4000
namespace Go.Ab
theorem ay.bounds{x:ay}(h:x.sz<=4194304):x.bO.length<=4194304/\x.fName.length<=4194304/\x.fArgs.length<=4194304/\x.aT.length<=4194304/\x.fType.sz<=4194304:=by
 simp only[ay.sz,ay.aJ,bQ,bP,D.sz,List.length_map,ak.dP] at h;omega
theorem ay.arg_b{x:ay}{i:Nat}(hi:i<x.fArgs.length)(h:x.sz<=4194304):x.fArgs[i].sz<=4194304:=by
 have hx:x.fArgs[i].sz<=aP (x.fArgs.map ay.enc):=dz (List.mem_map_of_mem (List.getElem_mem hi));simp only[ay.sz,ay.aJ,bQ,bP,D.sz,List.length_map] at h;omega
theorem ay.UN{x:ay}{i:Nat}(hi:i<x.aT.length)(h:x.sz<=4194304):x.aT[i].sz<=4194304:=by
 have hx:x.aT[i].sz<=aP (x.aT.map bq.enc):=dz (List.mem_map_of_mem (List.getElem_mem hi));simp only[ay.sz,ay.aJ,bQ,bP,D.sz,List.length_map] at h;omega
theorem bq.bounds{x:bq}(h:x.sz<=4194304):x.dN.length<=4194304/\x.aH.length<=4194304/\(∀s∈x.aH,s.length<=4194304)/\x.fBody.sz<=4194304:=by
 have hb:=bq.Rl x;simp only[bq.sz,bq.aJ,bQ,bP,D.sz,List.length_map] at h hb;refine⟨by omega,by omega,fun s hs=> ?_,by omega⟩;have:=sP hs;omega
theorem PV(k:Int):(k<1\/12<k)\/k=1\/k=2\/k=3\/k=4\/k=5\/k=6\/k=7\/k=8\/k=9\/k=10\/k=11\/k=12:=by omega
theorem WO(x:ay)(hsz:x.sz<=4194304)(hc:x.fArgs.length<=300):aF prog 185 [x.v] (.c (.d (.b (dec (vV x))))):=fun S=>by
 have hb0:=ay.bounds hsz;have hz:yG x.fType->nZ x.fType=false:=PE;rcases PV x.aM with hk|hk|hk|hk|hk|hk|hk|hk|hk|hk|hk|hk|hk
 ·have h1:¬vV x:=fun h=>by have:=h.1;omega
  refine zcx [.tmp 2] func185 ntmps185 ?_;refine W1 ?_;refine C2 (MG x.aM) ?_;refine S0 (fun hb h=>?_) fun hb h=>?_
  ·exact aI (aR h1).symm
  refine S0 (fun hb h=>?_) fun hb h=>?_
  ·exact aI (aR h1).symm
  ·omega
 all_goals
  refine zcx [.tmp 2] func185 ntmps185 ?_;simp -implicitDefEqProofs (disch:=omega) only[go_sem,hk];refine bD (MG _) ?_;simp -implicitDefEqProofs (disch:=omega) only[go_sem,hk,abT,abU]
  repeat' (first
   |with_reducible refine dS (fun hb=> ?_) (fun hb=> ?_)<;>have h:=hb<;>(try simp only[wf_preprocess] at h)<;>simp -implicitDefEqProofs (disch:=omega) only[go_sem,hb,hk]<;>refine W3 ?_
   |((with_reducible show fB _ _ 53 _ _ _ _);refine bD (iy x.fName (by omega)) ?_;simp -implicitDefEqProofs (disch:=omega) only[go_sem,hk])
   |((with_reducible show fB _ _ 53 _ _ _ _);refine bD (iy x.bO (by omega)) ?_;simp -implicitDefEqProofs (disch:=omega) only[go_sem,hk])
   |((with_reducible show fB _ _ 241 _ _ _ _);refine bD (Ul x.fName) ?_;simp -implicitDefEqProofs (disch:=omega) only[go_sem,hk])
   |((with_reducible show fB _ _ 150 _ _ _ _);refine bD (Js x.fType) ?_;simp -implicitDefEqProofs (disch:=omega) only[go_sem,hk])
   |((with_reducible show fB _ _ 211 _ _ _ _);refine bD (yP x.fType (by omega)) ?_;simp -implicitDefEqProofs (disch:=omega) only[go_sem,hk])
   |(refine aI (Bool.eq_iff_iff.2 ?_);simp only[Bq,vV,hk];grind [gJ,jo,bM,aR]))
end Go.Ab