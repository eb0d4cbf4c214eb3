/-
  SEVERAL TEXTS IN ONE (merged by program): contracts and models, each with its own heading.
-/
import Derived.Test.YtfhpfkaeldgcmaaGreatPartHebI
set_option linter.unusedSimpArgs false
set_option linter.unusedVariables false
set_option maxRecDepth 4000
namespace Go.Ab
theorem aD.bounds{x:aD}(h:x.sz<=4194304):x.bW.length<=4194304/\x.fName.length<=4194304/\x.fArgs.length<=4194304/\x.bP.length<=4194304/\x.fType.sz<=4194304:=by
 simp only[aD.sz,aD.aj,bG,bC,D.sz,List.length_map,ay.cK] at h;omega
theorem aD.arg_b{x:aD}{i:Nat}(hi:i<x.fArgs.length)(h:x.sz<=4194304):x.fArgs[i].sz<=4194304:=by
 have hx:x.fArgs[i].sz<=aQ (x.fArgs.map aD.enc):=dO (List.mem_map_of_mem (List.getElem_mem hi));simp only[aD.sz,aD.aj,bG,bC,D.sz,List.length_map] at h;omega
theorem aD.X8{x:aD}{i:Nat}(hi:i<x.bP.length)(h:x.sz<=4194304):x.bP[i].sz<=4194304:=by
 have hx:x.bP[i].sz<=aQ (x.bP.map bE.enc):=dO (List.mem_map_of_mem (List.getElem_mem hi));simp only[aD.sz,aD.aj,bG,bC,D.sz,List.length_map] at h;omega
theorem bE.bounds{x:bE}(h:x.sz<=4194304):x.fP.length<=4194304/\x.aU.length<=4194304/\(∀s∈x.aU,s.length<=4194304)/\x.fBody.sz<=4194304:=by
 have hb:=bE.Vn x;simp only[bE.sz,bE.aj,bG,bC,D.sz,List.length_map] at h hb;refine⟨by omega,by omega,fun s hs=> ?_,by omega⟩;have:=zo hs;omega
theorem X9(k:Int):(k<1\/12<k)\/k=1\/k=2\/k=3\/k=4\/k=5\/k=6\/k=7\/k=8\/k=9\/k=10\/k=11\/k=12:=by omega
end Go.Ab