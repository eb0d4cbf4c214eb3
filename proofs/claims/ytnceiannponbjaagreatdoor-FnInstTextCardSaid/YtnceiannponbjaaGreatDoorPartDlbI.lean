/-
  SEVERAL TEXTS IN ONE (merged by program): contracts and models, each with its own heading.
-/
import Derived.Test.YtnceiannponbjaaGreatDoorPartDlbH
set_option linter.unusedSimpArgs false
set_option linter.unusedVariables false
set_option maxRecDepth 4000
namespace Go.Ab
theorem dx.bounds{x:dx}(h:x.sz<=4194304):x.fName.length<=4194304/\x.aK.length<=4194304/\x.j4.length<=4194304/\∀s∈x.aK,s.length<=4194304:=by
 simp only[dx.sz,dx.aB,bL,bZ,D.sz,List.length_map] at h;refine⟨by omega,by omega,by omega,fun s hs=> ?_⟩;have:=Co hs;omega
theorem bP.bounds{x:bP}(h:x.sz<=4194304):x.fName.length<=4194304/\x.pX.length<=4194304/\∀t∈x.pX,t.sz<=4194304:=by
 simp only[bP.sz,bP.aB,bL,bZ,D.sz,List.length_map] at h;refine⟨by omega,by omega,fun t ht=> ?_⟩;have hx:t.sz<=bB (x.pX.map au.enc):=gT (List.mem_map_of_mem ht);omega
end Go.Ab