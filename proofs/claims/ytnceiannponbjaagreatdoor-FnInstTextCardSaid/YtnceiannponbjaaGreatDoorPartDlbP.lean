/-
  SEVERAL TEXTS IN ONE (merged by program): contracts and models, each with its own heading.
-/
import Derived.Test.YtnceiannponbjaaGreatDoorPartDlbO
set_option linter.unusedSimpArgs false
set_option linter.unusedVariables false
set_option maxRecDepth 4000
namespace Go.Ab
theorem fC.sum(x:fC):x.fName.length+(x.jS.length+bB (x.jS.map encS))+(x.kW.length+bB (x.kW.map cK.enc))<=x.sz:=by
 simp only[fC.sz,fC.aB,bL,bZ,D.sz,List.length_map];omega
end Go.Ab