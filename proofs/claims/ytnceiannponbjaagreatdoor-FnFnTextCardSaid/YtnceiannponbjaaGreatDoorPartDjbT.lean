/-
  SEVERAL TEXTS IN ONE (merged by program): contracts and models, each with its own heading.
-/
import Derived.Test.YtnceiannponbjaaGreatDoorPartDjbO
set_option linter.unusedSimpArgs false
set_option linter.unusedVariables false
set_option maxRecDepth 4000
namespace Go.Ab
theorem cK.sum(x:cK):x.aZ.length+(x.aW.length+bA (x.aW.map encS))+x.uU.sz+(x.dQ.length+bA (x.dQ.map aS.enc))+x.kM.sz+(x.nR.length+bA (x.nR.map dA.enc))<=x.sz:=by
 simp only[cK.sz,cK.aB,bG,bQ,D.sz,List.length_map,ak.bZ];omega
theorem dA.sum(x:dA):x.fName.length+(x.aW.length+bA (x.aW.map encS))+x.fBody.sz<=x.sz:=by
 simp only[dA.sz,dA.aB,bG,bQ,D.sz,List.length_map,au.bZ];omega
def x9(P:Program)(N:Nat)(g:St->St):Nat->Code->(Exit->St->Prop)->St->Prop
 |0,c,Q,s=>CW P N c Q (g s)
 |k+1,.seq x y,Q,s=>CW P N x (iY (x9 P N g k y Q) Q) s
 |_,_,_,_=>False
theorem acB{P:Program}{N:Nat}{g:St->St}{c:Code}{Q:Exit->St->Prop}{s:St}:x9 P N g 0 c Q s=CW P N c Q (g s):=by rw[x9]
theorem zK{P:Program}{N k:Nat}{g:St->St}{x y:Code}{Q:Exit->St->Prop}{s:St}:x9 P N g (k+1) (.seq x y) Q s=CW P N x (iY (x9 P N g k y Q) Q) s:=by rw[x9]
theorem acC{P:Program}{N:Nat}{g:St->St}{x y:Code}{Q:Exit->St->Prop}{s:St}:x9 P N g 5 (.seq x y) Q s=CW P N x (iY (x9 P N g 4 y Q) Q) s:=zK
theorem acD{P:Program}{N:Nat}{g:St->St}{x y:Code}{Q:Exit->St->Prop}{s:St}:x9 P N g 4 (.seq x y) Q s=CW P N x (iY (x9 P N g 3 y Q) Q) s:=zK
theorem ZC{P:Program}{N:Nat}{g:St->St}{x y:Code}{Q:Exit->St->Prop}{s:St}:x9 P N g 3 (.seq x y) Q s=CW P N x (iY (x9 P N g 2 y Q) Q) s:=zK
theorem aeW{P:Program}{N:Nat}{g:St->St}{x y:Code}{Q:Exit->St->Prop}{s:St}:x9 P N g 2 (.seq x y) Q s=CW P N x (iY (x9 P N g 1 y Q) Q) s:=zK
theorem aeX{P:Program}{N:Nat}{g:St->St}{x y:Code}{Q:Exit->St->Prop}{s:St}:x9 P N g 1 (.seq x y) Q s=CW P N x (iY (x9 P N g 0 y Q) Q) s:=zK
attribute [go_sem] acB acC acD ZC aeW aeX
end Go.Ab