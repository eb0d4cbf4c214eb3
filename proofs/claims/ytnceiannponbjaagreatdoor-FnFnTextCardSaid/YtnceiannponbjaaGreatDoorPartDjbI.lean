/-
  SEVERAL TEXTS IN ONE (merged by program): contracts and models, each with its own heading.
-/
import Derived.Test.YtnceiannponbjaaGreatDoorPartDjbH
set_option linter.unusedSimpArgs false
set_option linter.unusedVariables false
set_option maxRecDepth 4000
namespace Go.Ab
theorem cB.bounds{x:cB}(h:x.sz<=4194304):x.fName.length<=4194304/\x.aW.length<=4194304/\x.jE.length<=4194304/\∀s∈x.aW,s.length<=4194304:=by
 simp only[cB.sz,cB.aB,bG,bQ,D.sz,List.length_map] at h;refine⟨by omega,by omega,by omega,fun s hs=> ?_⟩;have:=Jt hs;omega
theorem bH.bounds{x:bH}(h:x.sz<=4194304):x.fName.length<=4194304/\x.oz.length<=4194304/\∀t∈x.oz,t.sz<=4194304:=by
 simp only[bH.sz,bH.aB,bG,bQ,D.sz,List.length_map] at h;refine⟨by omega,by omega,fun t ht=> ?_⟩;have hx:t.sz<=bA (x.oz.map ak.enc):=gD (List.mem_map_of_mem ht);omega
theorem Hq{vars:List (List UInt8)}{ts:List ak}(h:qQ vars ts=true):iA ts=true:=r9.2 fun t ht=>by
 have:=List.all_eq_true.1 h t ht;unfold iV at this;rw[Bool.and_eq_true] at this;exact qU this.1
end Go.Ab