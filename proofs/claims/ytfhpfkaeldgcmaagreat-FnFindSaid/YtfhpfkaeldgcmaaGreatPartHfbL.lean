/-
  SEVERAL TEXTS IN ONE (merged by program): contracts and models, each with its own heading.
-/
import Derived.Test.YtfhpfkaeldgcmaaGreatPartHfbK
set_option linter.unusedSimpArgs false
set_option linter.unusedVariables false
namespace Go.Ab
theorem Oh.trans{a b c:D}(h:Oh a b)(k:Oh b c):Oh a c:=fun w σ v x=>k w σ v (h w σ v x)
theorem lJ.trans:∀{a b c:List D},lJ a b->lJ b c->lJ a c
 |_,_,_,.nil,.nil=>.nil
 |_,_,_,.cons x h,.cons y k=>.cons (x.trans y) (h.trans k)
theorem kH.trans:∀{a b c:List (List D)},kH a b->kH b c->kH a c
 |_,_,_,.nil,.nil=>.nil
 |_,_,_,.cons x h,.cons y k=>.cons (x.trans y) (h.trans k)
theorem kH.at{a b:List (List D)}(h:kH a b):∀(i:Nat)(hi:i<b.length)(hi':i<a.length),lJ a[i] b[i]:=by
 induction h with
 |nil=>intro i hi;simp at hi
 |cons x h ih=>intro i hi hi';cases i with
  |zero=>exact x
  |succ i=>exact ih i (by simpa using hi) (by simpa using hi')
theorem u7.trans{a b c:C}(h:u7 a b)(k:u7 b c):u7 a c:=fun w σ S β v x=>k w σ S β v (h w σ S β v x)
end Go.Ab