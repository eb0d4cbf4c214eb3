/-
  SEVERAL TEXTS IN ONE (merged by program): contracts and models, each with its own heading.
-/
import Derived.Test.YtnceiannponbjaaGreatDoorPartDkbO
set_option linter.unusedSimpArgs false
set_option linter.unusedVariables false
set_option maxRecDepth 4000
namespace Go.Ab
theorem dn.sum(x:dn):x.bE.length+(x.aX.length+bC (x.aX.map encS))+x.uR.sz+(x.ji.length+bC (x.ji.map bO.enc))+x.eX.sz+(x.ou.length+bC (x.ou.map bM.enc))<=x.sz:=by
 simp only[dn.sz,dn.aB,bN,bR,D.sz,List.length_map,ak.dQ];omega
theorem bM.sum(x:bM):x.fName.length+(x.aX.length+bC (x.aX.map encS))+x.fBody.sz<=x.sz:=by
 simp only[bM.sz,bM.aB,bN,bR,D.sz,List.length_map,ay.dQ];omega
def xV(P:Program)(N:Nat)(g:St->St):Nat->Code->(Exit->St->Prop)->St->Prop
 |0,c,Q,s=>CW P N c Q (g s)
 |k+1,.seq x y,Q,s=>CW P N x (jq (xV P N g k y Q) Q) s
 |_,_,_,_=>False
theorem ach{P:Program}{N:Nat}{g:St->St}{c:Code}{Q:Exit->St->Prop}{s:St}:xV P N g 0 c Q s=CW P N c Q (g s):=by rw[xV]
theorem zB{P:Program}{N k:Nat}{g:St->St}{x y:Code}{Q:Exit->St->Prop}{s:St}:xV P N g (k+1) (.seq x y) Q s=CW P N x (jq (xV P N g k y Q) Q) s:=by rw[xV]
theorem aci{P:Program}{N:Nat}{g:St->St}{x y:Code}{Q:Exit->St->Prop}{s:St}:xV P N g 5 (.seq x y) Q s=CW P N x (jq (xV P N g 4 y Q) Q) s:=zB
theorem acj{P:Program}{N:Nat}{g:St->St}{x y:Code}{Q:Exit->St->Prop}{s:St}:xV P N g 4 (.seq x y) Q s=CW P N x (jq (xV P N g 3 y Q) Q) s:=zB
theorem Ze{P:Program}{N:Nat}{g:St->St}{x y:Code}{Q:Exit->St->Prop}{s:St}:xV P N g 3 (.seq x y) Q s=CW P N x (jq (xV P N g 2 y Q) Q) s:=zB
theorem aeD{P:Program}{N:Nat}{g:St->St}{x y:Code}{Q:Exit->St->Prop}{s:St}:xV P N g 2 (.seq x y) Q s=CW P N x (jq (xV P N g 1 y Q) Q) s:=zB
theorem aeE{P:Program}{N:Nat}{g:St->St}{x y:Code}{Q:Exit->St->Prop}{s:St}:xV P N g 1 (.seq x y) Q s=CW P N x (jq (xV P N g 0 y Q) Q) s:=zB
attribute [go_sem] ach aci acj Ze aeD aeE
end Go.Ab