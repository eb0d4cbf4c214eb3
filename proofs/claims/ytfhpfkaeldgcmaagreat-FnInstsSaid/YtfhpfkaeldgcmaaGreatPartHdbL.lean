/-
  SEVERAL TEXTS IN ONE (merged by program): contracts and models, each with its own heading.
-/
import Derived.Test.YtfhpfkaeldgcmaaGreatPartHdbK
set_option linter.unusedSimpArgs false
set_option linter.unusedVariables false
namespace Go.Ab
theorem Ns.trans{a b c:D}(h:Ns a b)(k:Ns b c):Ns a c:=fun w σ v x=>k w σ v (h w σ v x)
theorem lC.trans:∀{a b c:List D},lC a b->lC b c->lC a c
 |_,_,_,.nil,.nil=>.nil
 |_,_,_,.cons x h,.cons y k=>.cons (x.trans y) (h.trans k)
theorem kg.trans:∀{a b c:List (List D)},kg a b->kg b c->kg a c
 |_,_,_,.nil,.nil=>.nil
 |_,_,_,.cons x h,.cons y k=>.cons (x.trans y) (h.trans k)
theorem kg.at{a b:List (List D)}(h:kg a b):∀(i:Nat)(hi:i<b.length)(hi':i<a.length),lC a[i] b[i]:=by
 induction h with
 |nil=>intro i hi;simp at hi
 |cons x h ih=>intro i hi hi';cases i with
  |zero=>exact x
  |succ i=>exact ih i (by simpa using hi) (by simpa using hi')
theorem uJ.trans{a b c:C}(h:uJ a b)(k:uJ b c):uJ a c:=fun w σ S β v x=>k w σ S β v (h w σ S β v x)
end Go.Ab