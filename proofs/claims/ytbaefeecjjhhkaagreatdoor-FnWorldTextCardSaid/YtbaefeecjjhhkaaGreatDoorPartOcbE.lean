/-
  SEVERAL TEXTS IN ONE (merged by program): contracts and models, each with its own heading.
-/
import Derived.Test.YtbaefeecjjhhkaaGreatDoorPartOcbD
set_option linter.unusedSimpArgs false
set_option linter.unusedVariables false
namespace Go.Ab
section
variable {P:Program} {N:Nat} {S:Store} {s:St} {tm:List (Nat×V)}
def Lu(E:Md)(R:Array Oper)(K:St->Prop)(s:St):Prop:=Lh E R s.tm=true/\K s
@[congr] theorem aor {E:Md} {R:Array Oper} {K:St->Prop} {s s':St} (h2:s=s'):Lu E R K s=Lu E R K s':=by rw[h2]
def CR(P:Program)(N:Nat):Code->(Exit->St->Prop)->St->Prop
 | .seq x y,Q,s=>CR P N x (lG (CR P N y Q) Q) s
 | .region _ R true,Q,s=>uH P (uZ R N) R R.toList s (Lu (uZ R N) R (Q .normal))
 | .region id R false,Q,s=>CW P N (.region id R false) Q s
 | .cond c x y,Q,s=>CW P N (.cond c x y) Q s
 | .block id c,Q,s=>CW P N (.block id c) Q s
 | .exit id,Q,s=>CW P N (.exit id) Q s
 | .ret,Q,s=>CW P N .ret Q s
 | .skip,Q,s=>CW P N .skip Q s
 | .loop c,Q,s=>CW P N (.loop c) Q s
 |_,_,_=>False
theorem alb{x y:Code}{Q:Exit->St->Prop}:CR P N (.seq x y) Q s=CR P N x (lG (CR P N y Q) Q) s:=by rw[CR]
theorem aie{id:Nat}{l:List Oper}{Q:Exit->St->Prop}:CR P N (.region id ⟨l⟩ true) Q s=uH P (uZ ⟨l⟩ N) ⟨l⟩ l s (Lu (uZ ⟨l⟩ N) ⟨l⟩ (Q .normal)):=by rw[CR]
theorem ab2{id:Nat}{l:List Oper}{Q:Exit->St->Prop}:CR P N (.region id ⟨l⟩ false) Q s=CW P N (.region id ⟨l⟩ false) Q s:=by rw[CR]
theorem aif{c:Operand}{x y:Code}{Q:Exit->St->Prop}:CR P N (.cond c x y) Q s=CW P N (.cond c x y) Q s:=by rw[CR]
theorem alc{Q:Exit->St->Prop}:CR P N .ret Q s=CW P N .ret Q s:=by rw[CR]
theorem aii{Q:Exit->St->Prop}:CR P N .skip Q s=CW P N .skip Q s:=by rw[CR]
end
attribute [go_sem ↓] alb aie ab2 aif alc aii
section
variable {P:Program} {N:Nat} {S:Store} {s:St} {tm:List (Nat×V)}
def oG(P:Program)(N:Nat):Code->(Exit->St->Prop)->St->Prop
 | .seq x y,Q,s=>oG P N x (lG (oG P N y Q) Q) s
 | .region _ R true,Q,s=>uH P (uZ R N) R R.toList s (Lu (uZ R N) R (Q .normal))
 | .region id R false,Q,s=>CW P N (.region id R false) Q s
 | .cond c x y,Q,s=>zH (ev s.tm c) (oG P N x Q) (oG P N y Q) s
 | .block id c,Q,s=>oG P N c (zB id Q) s
 | .exit id,Q,s=>CW P N (.exit id) Q s
 | .ret,Q,s=>CW P N .ret Q s
 | .skip,Q,s=>CW P N .skip Q s
 | .loop c,Q,s=>CW P N (.loop c) Q s
 |_,_,_=>False
def xw(N:Nat):Code->Bool
 | .seq x y=>xw N x&&xw N y
 | .region _ R true=>Ic R N
 | .cond _ x y=>xw N x&&xw N y
 | .block _ c=>xw N c
 |c=>codeOk N c
theorem yS(eP:P.follows .mixedOrders=true):∀(c:Code)(Q:Exit->St->Prop)(s:St),xw N c=true->oG P N c Q s->AW P N c Q s
 | .seq x y,Q,s,ok,h=>by
   simp only[xw,Bool.and_eq_true] at ok;refine JM (AW.mono (yS eP x _ s ok.1 h) fun e s' h'=> ?_)
   cases e with
   |normal=>exact yS eP y Q s' ok.2 h'
   |_=>exact h'
 | .region _ R true,Q,s,ok,h=>Mq eP ok h
 | .region id R false,Q,s,ok,h=>iB eP _ Q s ok h
 | .cond c x y,Q,s,ok,h=>by
   simp only[xw,Bool.and_eq_true] at ok;simp only[oG,zH] at h;split at h
   ·rename_i b hb;exact Ld hb (fun e=>yS eP x Q s ok.1 (h.1 e)) (fun e=>yS eP y Q s ok.2 (h.2 e))
   ·exact h.elim
 | .block id c,Q,s,ok,h=>H8 (yS eP c _ s ok h)
 | .exit id,Q,s,ok,h=>iB eP _ Q s ok h
 | .ret,Q,s,ok,h=>iB eP _ Q s ok h
 | .skip,Q,s,ok,h=>iB eP _ Q s ok h
 | .loop c,Q,s,ok,h=>iB eP _ Q s ok h
 | .rangeFunc _ _ _ _,Q,s,ok,h=>h.elim
 | .scope _,Q,s,ok,h=>h.elim
 | .label _,Q,s,ok,h=>h.elim
 | .goto _,Q,s,ok,h=>h.elim
 | .refuse _,Q,s,ok,h=>h.elim
theorem ald{x y:Code}{Q:Exit->St->Prop}:oG P N (.seq x y) Q s=oG P N x (lG (oG P N y Q) Q) s:=by rw[oG]
theorem aij{id:Nat}{l:List Oper}{Q:Exit->St->Prop}:oG P N (.region id ⟨l⟩ true) Q s=uH P (uZ ⟨l⟩ N) ⟨l⟩ l s (Lu (uZ ⟨l⟩ N) ⟨l⟩ (Q .normal)):=by rw[oG]
theorem ab3{id:Nat}{l:List Oper}{Q:Exit->St->Prop}:oG P N (.region id ⟨l⟩ false) Q s=CW P N (.region id ⟨l⟩ false) Q s:=by rw[oG]
theorem aik{c:Operand}{x y:Code}{Q:Exit->St->Prop}:oG P N (.cond c x y) Q s=zH (ev s.tm c) (oG P N x Q) (oG P N y Q) s:=by rw[oG]
theorem ae4{id:Nat}{c:Code}{Q:Exit->St->Prop}:oG P N (.block id c) Q s=oG P N c (zB id Q) s:=by rw[oG]
theorem ail{id:Nat}{Q:Exit->St->Prop}:oG P N (.exit id) Q s=CW P N (.exit id) Q s:=by rw[oG]
theorem ale{Q:Exit->St->Prop}:oG P N .ret Q s=CW P N .ret Q s:=by rw[oG]
theorem ain{Q:Exit->St->Prop}:oG P N .skip Q s=CW P N .skip Q s:=by rw[oG]
theorem aio{c:Code}{Q:Exit->St->Prop}:oG P N (.loop c) Q s=CW P N (.loop c) Q s:=by rw[oG]
theorem ae5{f:FuncId}{fn:Func}{c:Code}{args:List V}{post:V->Store->Prop}{rs:List ResultVar}(eP:P.follows .mixedOrders=true)(hf:P.funcs[f]? =some fn)(hN:fn.ntmps=N)
 (hb:fn.body=some c) (hn:(fn.name== "runtime.NumGoroutine")=false) (hr:fn.results.toList=rs) (hl:Nat.ble args.length N=true) (hok:xw N c=true)
 (h:oG P N c (QY P rs post) ⟨pz (args.map (V.up 1)) 0,[]::S⟩):dw P f args S post:=by
 subst hN;subst hr;exact qW hf hb hn (Nat.le_of_ble_eq_true hl) (wD zG (yS eP c _ _ hok h))
end
attribute [go_sem ↓] ald aij ab3 aik ae4 ail ale ain aio
end Go.Ab