/-
  SEVERAL TEXTS IN ONE (merged by program): contracts and models, each with its own heading.
-/
import Derived.Test.YtlaaknnkeidlbaaGreatDoorPartDedbN
import Derived.Test.YtlaaknnkeidlbaaGreatDoorPartDedbQ
import Derived.Test.YtlaaknnkeidlbaaGreatDoorPartDedbR
set_option linter.unusedSimpArgs false
set_option linter.unusedVariables false
set_option maxRecDepth 4000
namespace Go.Ab
theorem Mi.trans{a b c:D}(h:Mi a b)(k:Mi b c):Mi a c:=fun w σ v x=>k w σ v (h w σ v x)
theorem kH.trans:∀{a b c:List D},kH a b->kH b c->kH a c
 |_,_,_,.nil,.nil=>.nil
 |_,_,_,.cons x h,.cons y k=>.cons (x.trans y) (h.trans k)
theorem kM.trans:∀{a b c:List (List D)},kM a b->kM b c->kM a c
 |_,_,_,.nil,.nil=>.nil
 |_,_,_,.cons x h,.cons y k=>.cons (x.trans y) (h.trans k)
theorem kM.at{a b:List (List D)}(h:kM a b):∀(i:Nat)(hi:i<b.length)(hi':i<a.length),kH a[i] b[i]:=by
 induction h with
 |nil=>intro i hi;simp at hi
 |cons x h ih=>intro i hi hi';cases i with
  |zero=>exact x
  |succ i=>exact ih i (by simpa using hi) (by simpa using hi')
theorem qb.trans{a b c:C}(h:qb a b)(k:qb b c):qb a c:=fun w σ S β v x=>k w σ S β v (h w σ S β v x)
end Go.Ab