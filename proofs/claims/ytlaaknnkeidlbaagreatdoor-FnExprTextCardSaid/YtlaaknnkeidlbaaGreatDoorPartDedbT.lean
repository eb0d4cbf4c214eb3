/-
  SEVERAL TEXTS IN ONE (merged by program): contracts and models, each with its own heading.
-/
import Derived.Test.YtlaaknnkeidlbaaGreatDoorPartDedbD
set_option maxHeartbeats 8000000
open Go.Proofs Go.Proofs.Tryz
set_option linter.unusedSimpArgs false
set_option linter.unusedVariables false
set_option maxRecDepth 4000
namespace Go.Ab
theorem aj.bounds{x:aj}(h:x.sz<=4194304):x.aW.length<=4194304/\x.fName.length<=4194304/\x.fArgs.length<=4194304/\x.aG.length<=4194304/\x.fType.sz<=4194304:=by
 simp only[aj.sz,aj.aB,bG,dR,D.sz,ai,au.dz] at h;omega
theorem aj.arg_b{x:aj}{i:Nat}(hi:i<x.fArgs.length)(h:x.sz<=4194304):x.fArgs[i].sz<=4194304:=by
 have hx:x.fArgs[i].sz<=bC (x.fArgs.map aj.enc):=iK (cE (ap hi));simp only[aj.sz,aj.aB,bG,dR,D.sz,ai] at h;omega
theorem aj.Nv{x:aj}{i:Nat}(hi:i<x.aG.length)(h:x.sz<=4194304):x.aG[i].sz<=4194304:=by
 have hx:x.aG[i].sz<=bC (x.aG.map aK.enc):=iK (cE (ap hi));simp only[aj.sz,aj.aB,bG,dR,D.sz,ai] at h;omega
theorem aK.bounds{x:aK}(h:x.sz<=4194304):x.bK.length<=4194304/\x.bH.length<=4194304/\(∀s∈x.bH,s.length<=4194304)/\x.fBody.sz<=4194304:=by
 have hb:=aK.KN x;simp only[aK.sz,aK.aB,bG,dR,D.sz,ai] at h hb;refine⟨by omega,by omega,fun s hs=> ?_,by omega⟩;have:=YT hs;omega
theorem JM(k:Int):(k<1\/12<k)\/k=1\/k=2\/k=3\/k=4\/k=5\/k=6\/k=7\/k=8\/k=9\/k=10\/k=11\/k=12:=by omega
theorem Qc(x:aj)(hsz:x.sz<=4194304)(hc:x.fArgs.length<=300):aF prog 185 [x.v] (.c (.d (.b (dec (qo x))))):=fun S=>by
 have hb0:=aj.bounds hsz;have hz:zQ x.fType->tJ x.fType=false:=Jf;rcases JM x.aH with hk|hk|hk|hk|hk|hk|hk|hk|hk|hk|hk|hk|hk
 ·have h1:¬qo x:=fun h=>by have:=h.1;omega
  refine zcx [.tmp 2] func185 ntmps185 ?_;simp -implicitDefEqProofs (disch:=omega) only[go_sem];refine aA (F6 x.aH) ?_;simp -implicitDefEqProofs (disch:=omega) only[go_sem]<;>(repeat(with_reducible refine And.intro ?_ ?_;focus first|omega|rfl|assumption|exact⟨_,rfl,rfl⟩|(simp;omega)|(simp;done)))
  with_reducible refine ay (fun hb=> ?_) (fun hb=> ?_)<;>have h:=hb<;>(try simp only[wf_preprocess] at h)<;>simp -implicitDefEqProofs (disch:=omega) only[go_sem,hb]<;>(repeat(with_reducible refine And.intro ?_ ?_;focus first|omega|rfl|assumption|exact⟨_,rfl,rfl⟩|(simp;omega)|(simp;done)))
  ·exact aO (aT h1).symm
  with_reducible refine ay (fun hb=> ?_) (fun hb=> ?_)<;>have h:=hb<;>(try simp only[wf_preprocess] at h)<;>simp -implicitDefEqProofs (disch:=omega) only[go_sem,hb]<;>(repeat(with_reducible refine And.intro ?_ ?_;focus first|omega|rfl|assumption|exact⟨_,rfl,rfl⟩|(simp;omega)|(simp;done)))
  ·exact aO (aT h1).symm
  ·omega
 all_goals
  refine zcx [.tmp 2] func185 ntmps185 ?_;simp -implicitDefEqProofs (disch:=omega) only[go_sem,hk];refine aA (F6 _) ?_;simp -implicitDefEqProofs (disch:=omega) only[go_sem,hk,Vu,Vv]
  repeat' (first
   |with_reducible refine ay (fun hb=> ?_) (fun hb=> ?_)<;>have h:=hb<;>(try simp only[wf_preprocess] at h)<;>simp -implicitDefEqProofs (disch:=omega) only[go_sem,hb,hk]<;>(repeat(with_reducible refine And.intro ?_ ?_;focus first|omega|rfl|assumption|exact⟨_,rfl,rfl⟩|(simp;omega)|(simp;done)))
   |((with_reducible show lI _ _ 53 _ _ _ _);refine aA (mO x.fName (by omega)) ?_;simp -implicitDefEqProofs (disch:=omega) only[go_sem,hk])
   |((with_reducible show lI _ _ 53 _ _ _ _);refine aA (mO x.aW (by omega)) ?_;simp -implicitDefEqProofs (disch:=omega) only[go_sem,hk])
   |((with_reducible show lI _ _ 241 _ _ _ _);refine aA (M0 x.fName) ?_;simp -implicitDefEqProofs (disch:=omega) only[go_sem,hk])
   |((with_reducible show lI _ _ 150 _ _ _ _);refine aA (M4 x.fType) ?_;simp -implicitDefEqProofs (disch:=omega) only[go_sem,hk])
   |((with_reducible show lI _ _ 211 _ _ _ _);refine aA (GA x.fType (by omega)) ?_;simp -implicitDefEqProofs (disch:=omega) only[go_sem,hk])
   |(refine aO (fc.2 ?_);simp only[vQ,qo,hk];grind [iJ,oD,cK,aT]))
end Go.Ab