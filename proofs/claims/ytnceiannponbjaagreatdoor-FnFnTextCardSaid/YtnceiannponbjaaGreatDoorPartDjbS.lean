/-
  SEVERAL TEXTS IN ONE (merged by program): contracts and models, each with its own heading.
-/
import Derived.Test.YtnceiannponbjaaGreatDoorPartDjbO
set_option linter.unusedSimpArgs false
set_option linter.unusedVariables false
set_option maxRecDepth 4000
namespace Go.Ab
theorem eG.sum(x:eG):x.fName.length+(x.jv.length+bA (x.jv.map encS))+(x.j4.length+bA (x.j4.map bN.enc))<=x.sz:=by
 simp only[eG.sz,eG.aB,bG,bQ,D.sz,List.length_map];omega
end Go.Ab