/-
  SEVERAL TEXTS IN ONE (merged by program): contracts and models, each with its own heading.
-/
import Derived.Test.YtnmjbebcebbmfaaGreatDoorPartDnbD
set_option linter.unusedSimpArgs false
set_option linter.unusedVariables false
namespace Go.Ab
section
variable {P:Program} {N:Nat} {S:Store} {s:St} {tm:List (Nat×V)}
def Og(E:Md)(R:Array Oper)(K:St->Prop)(s:St):Prop:=Xo E R s.tm=true/\K s
@[congr] theorem asu {E:Md} {R:Array Oper} {K:St->Prop} {s s':St} (h2:s=s'):Og E R K s=Og E R K s':=by rw[h2]
def EP(P:Program)(N:Nat):Code->(Exit->St->Prop)->St->Prop
 | .seq x y,Q,s=>EP P N x (mG (EP P N y Q) Q) s
 | .region _ R true,Q,s=>xR P (DT R N) R R.toList s (Og (DT R N) R (Q .normal))
 | .region id R false,Q,s=>CW P N (.region id R false) Q s
 | .cond c x y,Q,s=>CW P N (.cond c x y) Q s
 | .block id c,Q,s=>CW P N (.block id c) Q s
 | .exit id,Q,s=>CW P N (.exit id) Q s
 | .ret,Q,s=>CW P N .ret Q s
 | .skip,Q,s=>CW P N .skip Q s
 | .loop c,Q,s=>CW P N (.loop c) Q s
 |_,_,_=>False
theorem aoN{x y:Code}{Q:Exit->St->Prop}:EP P N (.seq x y) Q s=EP P N x (mG (EP P N y Q) Q) s:=by rw[EP]
theorem ald{id:Nat}{l:List Oper}{Q:Exit->St->Prop}:EP P N (.region id ⟨l⟩ true) Q s=xR P (DT ⟨l⟩ N) ⟨l⟩ l s (Og (DT ⟨l⟩ N) ⟨l⟩ (Q .normal)):=by rw[EP]
theorem aeQ{id:Nat}{l:List Oper}{Q:Exit->St->Prop}:EP P N (.region id ⟨l⟩ false) Q s=CW P N (.region id ⟨l⟩ false) Q s:=by rw[EP]
theorem ale{c:Operand}{x y:Code}{Q:Exit->St->Prop}:EP P N (.cond c x y) Q s=CW P N (.cond c x y) Q s:=by rw[EP]
theorem aoO{Q:Exit->St->Prop}:EP P N .ret Q s=CW P N .ret Q s:=by rw[EP]
theorem alf{Q:Exit->St->Prop}:EP P N .skip Q s=CW P N .skip Q s:=by rw[EP]
end
attribute [go_sem ↓] aoN ald aeQ ale aoO alf
section
variable {P:Program} {N:Nat} {S:Store} {s:St} {tm:List (Nat×V)}
def vB(P:Program)(N:Nat):Code->(Exit->St->Prop)->St->Prop
 | .seq x y,Q,s=>vB P N x (mG (vB P N y Q) Q) s
 | .region _ R true,Q,s=>xR P (DT R N) R R.toList s (Og (DT R N) R (Q .normal))
 | .region id R false,Q,s=>CW P N (.region id R false) Q s
 | .cond c x y,Q,s=>Fq (ev s.tm c) (vB P N x Q) (vB P N y Q) s
 | .block id c,Q,s=>vB P N c (Bv id Q) s
 | .exit id,Q,s=>CW P N (.exit id) Q s
 | .ret,Q,s=>CW P N .ret Q s
 | .skip,Q,s=>CW P N .skip Q s
 | .loop c,Q,s=>CW P N (.loop c) Q s
 |_,_,_=>False
theorem aoP{x y:Code}{Q:Exit->St->Prop}:vB P N (.seq x y) Q s=vB P N x (mG (vB P N y Q) Q) s:=by rw[vB]
theorem alg{id:Nat}{l:List Oper}{Q:Exit->St->Prop}:vB P N (.region id ⟨l⟩ true) Q s=xR P (DT ⟨l⟩ N) ⟨l⟩ l s (Og (DT ⟨l⟩ N) ⟨l⟩ (Q .normal)):=by rw[vB]
theorem aeR{id:Nat}{l:List Oper}{Q:Exit->St->Prop}:vB P N (.region id ⟨l⟩ false) Q s=CW P N (.region id ⟨l⟩ false) Q s:=by rw[vB]
theorem alh{c:Operand}{x y:Code}{Q:Exit->St->Prop}:vB P N (.cond c x y) Q s=Fq (ev s.tm c) (vB P N x Q) (vB P N y Q) s:=by rw[vB]
theorem ahT{id:Nat}{c:Code}{Q:Exit->St->Prop}:vB P N (.block id c) Q s=vB P N c (Bv id Q) s:=by rw[vB]
theorem ali{id:Nat}{Q:Exit->St->Prop}:vB P N (.exit id) Q s=CW P N (.exit id) Q s:=by rw[vB]
theorem aoQ{Q:Exit->St->Prop}:vB P N .ret Q s=CW P N .ret Q s:=by rw[vB]
theorem alj{Q:Exit->St->Prop}:vB P N .skip Q s=CW P N .skip Q s:=by rw[vB]
theorem alk{c:Code}{Q:Exit->St->Prop}:vB P N (.loop c) Q s=CW P N (.loop c) Q s:=by rw[vB]
end
attribute [go_sem ↓] aoP alg aeR alh ahT ali aoQ alj alk
end Go.Ab