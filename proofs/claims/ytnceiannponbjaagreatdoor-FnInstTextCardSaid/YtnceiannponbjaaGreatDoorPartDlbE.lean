/-
  SEVERAL TEXTS IN ONE (merged by program): contracts and models, each with its own heading.
-/
import Derived.Test.YtnceiannponbjaaGreatDoorPartDlbC
open Go.Proofs Go.Proofs.Tryz
set_option linter.unusedSimpArgs false
set_option linter.unusedVariables false
set_option maxRecDepth 4000
namespace Go.Ab
theorem JL:∀n:Nat,(∀x:au,SizeOf.sizeOf x<n->x.sz<=4194304->aJ prog 194 [x.v] x.v)/\
 (∀xs:List au,SizeOf.sizeOf xs<n->xs.length+bB (xs.map au.enc)<=4194304->aJ prog 222 [.c (.d (.sl (xs.map au.enc)))] (.c (.d (.sl (xs.map au.enc)))))
 |0=>⟨fun x h=>by omega,fun x h=>by omega⟩
 |n+1=>by
  obtain⟨ih,nJ⟩:=JL n;refine⟨fun x hn hsz S=> ?_,fun xs hn hsz S=> ?_⟩
  ·have jA:=au.iI x;simp only[au.sz,au.aB,bL,bZ,D.sz,List.length_map] at hsz;refine zcx [.cell 2 29] func194 ntmps194 ?_;simp -implicitDefEqProofs (disch:=omega) only[go_sem];refine aA (nJ x.fArgs (by omega) (by omega)) ?_;simp -implicitDefEqProofs (disch:=omega) only[go_sem]
  ·refine zcx [.tmp 2] func222 ntmps222 ?_;simp -implicitDefEqProofs (disch:=omega) only[go_sem];refine yg 3 3 [] rfl (by simp) ?_
   refine bF (ι:=Nat×List (List D)) zmx rfl [0,3,4] (fun y=>[.c (.d (.sl (xs.map au.enc))),.c (.bK (0,0) y.2),.c (.d (.i .i64 y.1))]) (fun y=>[.tok 3 y.2]::S)
    (fun y=>y.1<=xs.length/\y.2=(xs.map au.enc).take y.1) (fun y=>xs.length-y.1) (0,[]) rfl rfl ⟨Nat.zero_le _,rfl⟩ ?_
   rintro⟨i,es⟩ ⟨p1,p2⟩;simp only at p1 p2
   have pl:es.length<=xs.length:=by rw[p2];simp;omega
   simp -implicitDefEqProofs (disch:=omega) only[go_sem]
   with_reducible refine aD (fun hb=> ?_) (fun hb=> ?_)<;>have h:=hb<;>(try simp only[wf_preprocess] at h)<;>simp -implicitDefEqProofs (disch:=omega) only[go_sem,hb]<;>(repeat(with_reducible refine And.intro ?_ ?_;focus first|omega|rfl|assumption|exact⟨_,rfl,rfl⟩|(simp;omega)|(simp;done)))
   ·have hi:i<xs.length:=by omega
    have hx:xs[i].sz<=bB (xs.map au.enc):=gT (List.mem_map_of_mem (List.getElem_mem hi))
    (repeat(with_reducible refine And.intro ?_ ?_;focus first|omega|rfl|assumption|exact⟨_,rfl,rfl⟩|(simp;omega)|(simp;done)))
    refine aA (ih xs[i] (by have:=List.sizeOf_lt_of_mem (List.getElem_mem hi);omega) (by omega)) ?_;simp -implicitDefEqProofs (disch:=omega) only[go_sem]
    (repeat(with_reducible refine And.intro ?_ ?_;focus first|omega|rfl|assumption|exact⟨_,rfl,rfl⟩|(simp;omega)|(simp;done)))
    exact dG (i+1,_) (by simp only;omega) rfl rfl ⟨by simp only;omega,by rw[p2];simp[List.take_succ_eq_append_getElem,hi,au.aB]⟩
   ·have hi:i=xs.length:=by omega
    rw[p2,List.take_of_length_le (by rw[List.length_map];omega)]
theorem Y1(x:au)(h:x.sz<=4194304):aJ prog 194 [x.v] x.v:=(JL _).1 x (Nat.lt_succ_self _) h
end Go.Ab