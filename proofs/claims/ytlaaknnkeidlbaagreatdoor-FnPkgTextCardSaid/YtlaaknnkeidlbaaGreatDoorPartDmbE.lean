/-
  SEVERAL TEXTS IN ONE (merged by program): contracts and models, each with its own heading.
-/
import Derived.Test.YtlaaknnkeidlbaaGreatDoorPartDmbD
set_option linter.unusedSimpArgs false
set_option linter.unusedVariables false
namespace Go.Ab
section
variable {P:Program} {N:Nat} {S:Store} {s:St} {tm:List (Nat×V)}
def LG(E:Md)(R:Array Oper)(K:St->Prop)(s:St):Prop:=UD E R s.tm=true/\K s
@[congr] theorem ao2 {E:Md} {R:Array Oper} {K:St->Prop} {s s':St} (h2:s=s'):LG E R K s=LG E R K s':=by rw[h2]
def CY(P:Program)(N:Nat):Code->(Exit->St->Prop)->St->Prop
 | .seq x y,Q,s=>CY P N x (lY (CY P N y Q) Q) s
 | .region _ R true,Q,s=>wz P (BP R N) R R.toList s (LG (BP R N) R (Q .normal))
 | .region id R false,Q,s=>CW P N (.region id R false) Q s
 | .cond c x y,Q,s=>CW P N (.cond c x y) Q s
 | .block id c,Q,s=>CW P N (.block id c) Q s
 | .exit id,Q,s=>CW P N (.exit id) Q s
 | .ret,Q,s=>CW P N .ret Q s
 | .skip,Q,s=>CW P N .skip Q s
 | .loop c,Q,s=>CW P N (.loop c) Q s
 |_,_,_=>False
theorem alo{x y:Code}{Q:Exit->St->Prop}:CY P N (.seq x y) Q s=CY P N x (lY (CY P N y Q) Q) s:=by rw[CY]
theorem ah0{id:Nat}{l:List Oper}{Q:Exit->St->Prop}:CY P N (.region id ⟨l⟩ true) Q s=wz P (BP ⟨l⟩ N) ⟨l⟩ l s (LG (BP ⟨l⟩ N) ⟨l⟩ (Q .normal)):=by rw[CY]
theorem abD{id:Nat}{l:List Oper}{Q:Exit->St->Prop}:CY P N (.region id ⟨l⟩ false) Q s=CW P N (.region id ⟨l⟩ false) Q s:=by rw[CY]
theorem ah1{c:Operand}{x y:Code}{Q:Exit->St->Prop}:CY P N (.cond c x y) Q s=CW P N (.cond c x y) Q s:=by rw[CY]
theorem alp{Q:Exit->St->Prop}:CY P N .ret Q s=CW P N .ret Q s:=by rw[CY]
theorem ah2{Q:Exit->St->Prop}:CY P N .skip Q s=CW P N .skip Q s:=by rw[CY]
end
attribute [go_sem ↓] alo ah0 abD ah1 alp ah2
section
variable {P:Program} {N:Nat} {S:Store} {s:St} {tm:List (Nat×V)}
def ug(P:Program)(N:Nat):Code->(Exit->St->Prop)->St->Prop
 | .seq x y,Q,s=>ug P N x (lY (ug P N y Q) Q) s
 | .region _ R true,Q,s=>wz P (BP R N) R R.toList s (LG (BP R N) R (Q .normal))
 | .region id R false,Q,s=>CW P N (.region id R false) Q s
 | .cond c x y,Q,s=>Dt (ev s.tm c) (ug P N x Q) (ug P N y Q) s
 | .block id c,Q,s=>ug P N c (zR id Q) s
 | .exit id,Q,s=>CW P N (.exit id) Q s
 | .ret,Q,s=>CW P N .ret Q s
 | .skip,Q,s=>CW P N .skip Q s
 | .loop c,Q,s=>CW P N (.loop c) Q s
 |_,_,_=>False
theorem alq{x y:Code}{Q:Exit->St->Prop}:ug P N (.seq x y) Q s=ug P N x (lY (ug P N y Q) Q) s:=by rw[ug]
theorem ah3{id:Nat}{l:List Oper}{Q:Exit->St->Prop}:ug P N (.region id ⟨l⟩ true) Q s=wz P (BP ⟨l⟩ N) ⟨l⟩ l s (LG (BP ⟨l⟩ N) ⟨l⟩ (Q .normal)):=by rw[ug]
theorem abE{id:Nat}{l:List Oper}{Q:Exit->St->Prop}:ug P N (.region id ⟨l⟩ false) Q s=CW P N (.region id ⟨l⟩ false) Q s:=by rw[ug]
theorem ah4{c:Operand}{x y:Code}{Q:Exit->St->Prop}:ug P N (.cond c x y) Q s=Dt (ev s.tm c) (ug P N x Q) (ug P N y Q) s:=by rw[ug]
theorem aeN{id:Nat}{c:Code}{Q:Exit->St->Prop}:ug P N (.block id c) Q s=ug P N c (zR id Q) s:=by rw[ug]
theorem ah5{id:Nat}{Q:Exit->St->Prop}:ug P N (.exit id) Q s=CW P N (.exit id) Q s:=by rw[ug]
theorem alr{Q:Exit->St->Prop}:ug P N .ret Q s=CW P N .ret Q s:=by rw[ug]
theorem ah6{Q:Exit->St->Prop}:ug P N .skip Q s=CW P N .skip Q s:=by rw[ug]
theorem ah7{c:Code}{Q:Exit->St->Prop}:ug P N (.loop c) Q s=CW P N (.loop c) Q s:=by rw[ug]
end
attribute [go_sem ↓] alq ah3 abE ah4 aeN ah5 alr ah6 ah7
end Go.Ab