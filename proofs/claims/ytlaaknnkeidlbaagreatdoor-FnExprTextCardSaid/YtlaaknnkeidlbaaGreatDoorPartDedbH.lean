/-
  SEVERAL TEXTS IN ONE (merged by program): contracts and models, each with its own heading.
-/
import Derived.Test.YtlaaknnkeidlbaaGreatDoorPartDedbF
set_option linter.unusedSimpArgs false
set_option linter.unusedVariables false
namespace Go.Ab
section
variable {P:Program} {N:Nat} {S:Store} {s:St} {tm:List (Nat×V)}
def Fw(E:Md)(R:Array Oper)(K:St->Prop)(s:St):Prop:=Nh E R s.tm=true/\K s
@[congr] theorem ahE {E:Md} {R:Array Oper} {K:St->Prop} {s s':St} (h2:s=s'):Fw E R K s=Fw E R K s':=by rw[h2]
def xG(P:Program)(N:Nat):Code->(Exit->St->Prop)->St->Prop
 | .seq x y,Q,s=>xG P N x (kU (xG P N y Q) Q) s
 | .region _ R true,Q,s=>qy P (wF R N) R R.toList s (Fw (wF R N) R (Q .normal))
 | .region id R false,Q,s=>CW P N (.region id R false) Q s
 | .cond c x y,Q,s=>CW P N (.cond c x y) Q s
 | .block id c,Q,s=>CW P N (.block id c) Q s
 | .exit id,Q,s=>CW P N (.exit id) Q s
 | .ret,Q,s=>CW P N .ret Q s
 | .skip,Q,s=>CW P N .skip Q s
 | .loop c,Q,s=>CW P N (.loop c) Q s
 |_,_,_=>False
theorem ae1{x y:Code}{Q:Exit->St->Prop}:xG P N (.seq x y) Q s=xG P N x (kU (xG P N y Q) Q) s:=by rw[xG]
theorem ab7{id:Nat}{l:List Oper}{Q:Exit->St->Prop}:xG P N (.region id ⟨l⟩ true) Q s=qy P (wF ⟨l⟩ N) ⟨l⟩ l s (Fw (wF ⟨l⟩ N) ⟨l⟩ (Q .normal)):=by rw[xG]
theorem VG{id:Nat}{l:List Oper}{Q:Exit->St->Prop}:xG P N (.region id ⟨l⟩ false) Q s=CW P N (.region id ⟨l⟩ false) Q s:=by rw[xG]
theorem ab8{c:Operand}{x y:Code}{Q:Exit->St->Prop}:xG P N (.cond c x y) Q s=CW P N (.cond c x y) Q s:=by rw[xG]
theorem ae2{Q:Exit->St->Prop}:xG P N .ret Q s=CW P N .ret Q s:=by rw[xG]
theorem ab9{Q:Exit->St->Prop}:xG P N .skip Q s=CW P N .skip Q s:=by rw[xG]
end
attribute [go_sem ↓] ae1 ab7 VG ab8 ae2 ab9
section
variable {P:Program} {N:Nat} {S:Store} {s:St} {tm:List (Nat×V)}
def ow(P:Program)(N:Nat):Code->(Exit->St->Prop)->St->Prop
 | .seq x y,Q,s=>ow P N x (kU (ow P N y Q) Q) s
 | .region _ R true,Q,s=>qy P (wF R N) R R.toList s (Fw (wF R N) R (Q .normal))
 | .region id R false,Q,s=>CW P N (.region id R false) Q s
 | .cond c x y,Q,s=>xX (ev s.tm c) (ow P N x Q) (ow P N y Q) s
 | .block id c,Q,s=>ow P N c (uF id Q) s
 | .exit id,Q,s=>CW P N (.exit id) Q s
 | .ret,Q,s=>CW P N .ret Q s
 | .skip,Q,s=>CW P N .skip Q s
 | .loop c,Q,s=>CW P N (.loop c) Q s
 |_,_,_=>False
theorem ae3{x y:Code}{Q:Exit->St->Prop}:ow P N (.seq x y) Q s=ow P N x (kU (ow P N y Q) Q) s:=by rw[ow]
theorem acd{id:Nat}{l:List Oper}{Q:Exit->St->Prop}:ow P N (.region id ⟨l⟩ true) Q s=qy P (wF ⟨l⟩ N) ⟨l⟩ l s (Fw (wF ⟨l⟩ N) ⟨l⟩ (Q .normal)):=by rw[ow]
theorem VH{id:Nat}{l:List Oper}{Q:Exit->St->Prop}:ow P N (.region id ⟨l⟩ false) Q s=CW P N (.region id ⟨l⟩ false) Q s:=by rw[ow]
theorem ace{c:Operand}{x y:Code}{Q:Exit->St->Prop}:ow P N (.cond c x y) Q s=xX (ev s.tm c) (ow P N x Q) (ow P N y Q) s:=by rw[ow]
theorem Y7{id:Nat}{c:Code}{Q:Exit->St->Prop}:ow P N (.block id c) Q s=ow P N c (uF id Q) s:=by rw[ow]
theorem acf{id:Nat}{Q:Exit->St->Prop}:ow P N (.exit id) Q s=CW P N (.exit id) Q s:=by rw[ow]
theorem ae4{Q:Exit->St->Prop}:ow P N .ret Q s=CW P N .ret Q s:=by rw[ow]
theorem acg{Q:Exit->St->Prop}:ow P N .skip Q s=CW P N .skip Q s:=by rw[ow]
theorem ach{c:Code}{Q:Exit->St->Prop}:ow P N (.loop c) Q s=CW P N (.loop c) Q s:=by rw[ow]
end
attribute [go_sem ↓] ae3 acd VH ace Y7 acf ae4 acg ach
end Go.Ab