/-
  SEVERAL TEXTS IN ONE (merged by program): contracts and models, each with its own heading.
-/
import Derived.Test.YtnceiannponbjaaGreatDoorPartDkbH
set_option linter.unusedSimpArgs false
set_option linter.unusedVariables false
set_option maxRecDepth 4000
namespace Go.Ab
theorem dh.bounds{x:dh}(h:x.sz<=4194304):x.fName.length<=4194304/\x.aX.length<=4194304/\x.jS.length<=4194304/\∀s∈x.aX,s.length<=4194304:=by
 simp only[dh.sz,dh.aB,bN,bR,D.sz,List.length_map] at h;refine⟨by omega,by omega,by omega,fun s hs=> ?_⟩;have:=Bf hs;omega
theorem aS.bounds{x:aS}(h:x.sz<=4194304):x.fName.length<=4194304/\x.oQ.length<=4194304/\∀t∈x.oQ,t.sz<=4194304:=by
 simp only[aS.sz,aS.aB,bN,bR,D.sz,List.length_map] at h;refine⟨by omega,by omega,fun t ht=> ?_⟩;have hx:t.sz<=bC (x.oQ.map ak.enc):=fI (List.mem_map_of_mem ht);omega
theorem GU{vars:List (List UInt8)}{ts:List ak}(h:mV vars ts=true):gQ ts=true:=wo.2 fun t ht=>by
 have:=List.all_eq_true.1 h t ht;unfold j3 at this;rw[Bool.and_eq_true] at this;exact uT this.1
end Go.Ab