/-
  SEVERAL TEXTS IN ONE (merged by program): contracts and models, each with its own heading.
-/
import Derived.Test.YtnmjbebcebbmfaaGreatPartHibG
import Derived.Test.YtnmjbebcebbmfaaGreatPartHibJ
set_option linter.unusedSimpArgs false
set_option linter.unusedVariables false
set_option maxRecDepth 4000
namespace Go.Ab
def vP(P:Program)(N:Nat)(g:St->St):Nat->Code->(Exit->St->Prop)->St->Prop
 |0,c,Q,s=>CW P N c Q (g s)
 |k+1,.seq x y,Q,s=>CW P N x (gZ (vP P N g k y Q) Q) s
 |_,_,_,_=>False
theorem X0{P:Program}{N:Nat}{g:St->St}{c:Code}{Q:Exit->St->Prop}{s:St}:vP P N g 0 c Q s=CW P N c Q (g s):=by rw[vP]
theorem xD{P:Program}{N k:Nat}{g:St->St}{x y:Code}{Q:Exit->St->Prop}{s:St}:vP P N g (k+1) (.seq x y) Q s=CW P N x (gZ (vP P N g k y Q) Q) s:=by rw[vP]
theorem X3{P:Program}{N:Nat}{g:St->St}{x y:Code}{Q:Exit->St->Prop}{s:St}:vP P N g 5 (.seq x y) Q s=CW P N x (gZ (vP P N g 4 y Q) Q) s:=xD
theorem X4{P:Program}{N:Nat}{g:St->St}{x y:Code}{Q:Exit->St->Prop}{s:St}:vP P N g 4 (.seq x y) Q s=CW P N x (gZ (vP P N g 3 y Q) Q) s:=xD
theorem UO{P:Program}{N:Nat}{g:St->St}{x y:Code}{Q:Exit->St->Prop}{s:St}:vP P N g 3 (.seq x y) Q s=CW P N x (gZ (vP P N g 2 y Q) Q) s:=xD
theorem aac{P:Program}{N:Nat}{g:St->St}{x y:Code}{Q:Exit->St->Prop}{s:St}:vP P N g 2 (.seq x y) Q s=CW P N x (gZ (vP P N g 1 y Q) Q) s:=xD
theorem aad{P:Program}{N:Nat}{g:St->St}{x y:Code}{Q:Exit->St->Prop}{s:St}:vP P N g 1 (.seq x y) Q s=CW P N x (gZ (vP P N g 0 y Q) Q) s:=xD
attribute [go_sem] X0 X3 X4 UO aac aad
end Go.Ab