/-
  SEVERAL TEXTS IN ONE (merged by program): contracts and models, each with its own heading.
-/
import Derived.Test.YtfhpfkaeldgcmaaGreatPartHebK
set_option linter.unusedSimpArgs false
set_option linter.unusedVariables false
namespace Go.Ab
theorem Ov.trans{a b c:D}(h:Ov a b)(k:Ov b c):Ov a c:=fun w σ v x=>k w σ v (h w σ v x)
theorem lG.trans:∀{a b c:List D},lG a b->lG b c->lG a c
 |_,_,_,.nil,.nil=>.nil
 |_,_,_,.cons x h,.cons y k=>.cons (x.trans y) (h.trans k)
theorem kr.trans:∀{a b c:List (List D)},kr a b->kr b c->kr a c
 |_,_,_,.nil,.nil=>.nil
 |_,_,_,.cons x h,.cons y k=>.cons (x.trans y) (h.trans k)
theorem kr.at{a b:List (List D)}(h:kr a b):∀(i:Nat)(hi:i<b.length)(hi':i<a.length),lG a[i] b[i]:=by
 induction h with
 |nil=>intro i hi;simp at hi
 |cons x h ih=>intro i hi hi';cases i with
  |zero=>exact x
  |succ i=>exact ih i (by simpa using hi) (by simpa using hi')
theorem vg.trans{a b c:C}(h:vg a b)(k:vg b c):vg a c:=fun w σ S β v x=>k w σ S β v (h w σ S β v x)
end Go.Ab