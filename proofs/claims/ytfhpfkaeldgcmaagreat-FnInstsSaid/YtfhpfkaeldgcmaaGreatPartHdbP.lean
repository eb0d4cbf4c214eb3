/-
  SEVERAL TEXTS IN ONE (merged by program): contracts and models, each with its own heading.
-/
import Derived.Test.YtfhpfkaeldgcmaaGreatPartHdbI
set_option linter.unusedSimpArgs false
set_option linter.unusedVariables false
set_option maxRecDepth 4000
namespace Go.Ab
theorem aC.bounds{x:aC}(h:x.sz<=4194304):x.bU.length<=4194304/\x.fName.length<=4194304/\x.fArgs.length<=4194304/\x.bE.length<=4194304/\x.fType.sz<=4194304:=by
 simp only[aC.sz,aC.aj,bF,bL,D.sz,List.length_map,ay.cK] at h;omega
theorem aC.arg_b{x:aC}{i:Nat}(hi:i<x.fArgs.length)(h:x.sz<=4194304):x.fArgs[i].sz<=4194304:=by
 have hx:x.fArgs[i].sz<=aI (x.fArgs.map aC.enc):=dV (List.mem_map_of_mem (List.getElem_mem hi));simp only[aC.sz,aC.aj,bF,bL,D.sz,List.length_map] at h;omega
theorem aC.WS{x:aC}{i:Nat}(hi:i<x.bE.length)(h:x.sz<=4194304):x.bE[i].sz<=4194304:=by
 have hx:x.bE[i].sz<=aI (x.bE.map aZ.enc):=dV (List.mem_map_of_mem (List.getElem_mem hi));simp only[aC.sz,aC.aj,bF,bL,D.sz,List.length_map] at h;omega
theorem aZ.bounds{x:aZ}(h:x.sz<=4194304):x.fK.length<=4194304/\x.aO.length<=4194304/\(∀s∈x.aO,s.length<=4194304)/\x.fBody.sz<=4194304:=by
 have hb:=aZ.Ue x;simp only[aZ.sz,aZ.aj,bF,bL,D.sz,List.length_map] at h hb;refine⟨by omega,by omega,fun s hs=> ?_,by omega⟩;have:=yI hs;omega
theorem WU(k:Int):(k<1\/12<k)\/k=1\/k=2\/k=3\/k=4\/k=5\/k=6\/k=7\/k=8\/k=9\/k=10\/k=11\/k=12:=by omega
end Go.Ab