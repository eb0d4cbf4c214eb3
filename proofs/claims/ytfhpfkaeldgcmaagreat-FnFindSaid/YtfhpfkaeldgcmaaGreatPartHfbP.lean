/-
  SEVERAL TEXTS IN ONE (merged by program): contracts and models, each with its own heading.
-/
import Derived.Test.YtfhpfkaeldgcmaaGreatPartHfbI
set_option linter.unusedSimpArgs false
set_option linter.unusedVariables false
set_option maxRecDepth 4000
namespace Go.Ab
theorem aC.bounds{x:aC}(h:x.sz<=4194304):x.bU.length<=4194304/\x.fName.length<=4194304/\x.fArgs.length<=4194304/\x.bH.length<=4194304/\x.fType.sz<=4194304:=by
 simp only[aC.sz,aC.aj,bD,aY,D.sz,List.length_map,ay.bY] at h;omega
theorem aC.arg_b{x:aC}{i:Nat}(hi:i<x.fArgs.length)(h:x.sz<=4194304):x.fArgs[i].sz<=4194304:=by
 have hx:x.fArgs[i].sz<=aN (x.fArgs.map aC.enc):=dx (List.mem_map_of_mem (List.getElem_mem hi));simp only[aC.sz,aC.aj,bD,aY,D.sz,List.length_map] at h;omega
theorem aC.XQ{x:aC}{i:Nat}(hi:i<x.bH.length)(h:x.sz<=4194304):x.bH[i].sz<=4194304:=by
 have hx:x.bH[i].sz<=aN (x.bH.map bn.enc):=dx (List.mem_map_of_mem (List.getElem_mem hi));simp only[aC.sz,aC.aj,bD,aY,D.sz,List.length_map] at h;omega
theorem bn.bounds{x:bn}(h:x.sz<=4194304):x.fK.length<=4194304/\x.aS.length<=4194304/\(∀s∈x.aS,s.length<=4194304)/\x.fBody.sz<=4194304:=by
 have hb:=bn.U6 x;simp only[bn.sz,bn.aj,bD,aY,D.sz,List.length_map] at h hb;refine⟨by omega,by omega,fun s hs=> ?_,by omega⟩;have:=y8 hs;omega
theorem XR(k:Int):(k<1\/12<k)\/k=1\/k=2\/k=3\/k=4\/k=5\/k=6\/k=7\/k=8\/k=9\/k=10\/k=11\/k=12:=by omega
end Go.Ab