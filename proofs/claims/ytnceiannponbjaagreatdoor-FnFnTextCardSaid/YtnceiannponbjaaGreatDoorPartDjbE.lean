/-
  SEVERAL TEXTS IN ONE (merged by program): contracts and models, each with its own heading.
-/
import Derived.Test.YtnceiannponbjaaGreatDoorPartDjbC
open Go.Proofs Go.Proofs.Tryz
set_option linter.unusedSimpArgs false
set_option linter.unusedVariables false
set_option maxRecDepth 4000
namespace Go.Ab
theorem I5:∀n:Nat,(∀x:ak,SizeOf.sizeOf x<n->x.sz<=4194304->aG prog 194 [x.v] x.v)/\
 (∀xs:List ak,SizeOf.sizeOf xs<n->xs.length+bA (xs.map ak.enc)<=4194304->aG prog 222 [.c (.d (.sl (xs.map ak.enc)))] (.c (.d (.sl (xs.map ak.enc)))))
 |0=>⟨fun x h=>by omega,fun x h=>by omega⟩
 |n+1=>by
  obtain⟨ih,mF⟩:=I5 n;refine⟨fun x hn hsz S=> ?_,fun xs hn hsz S=> ?_⟩
  ·have jl:=ak.iy x;simp only[ak.sz,ak.aB,bG,bQ,D.sz,List.length_map] at hsz;refine zcx [.cell 2 29] func194 ntmps194 ?_;simp -implicitDefEqProofs (disch:=omega) only[go_sem];refine ay (mF x.fArgs (by omega) (by omega)) ?_;simp -implicitDefEqProofs (disch:=omega) only[go_sem]
  ·refine zcx [.tmp 2] func222 ntmps222 ?_;simp -implicitDefEqProofs (disch:=omega) only[go_sem];refine uR 3 3 [] rfl (by simp) ?_
   refine bC (ι:=Nat×List (List D)) zmx rfl [0,3,4] (fun y=>[.c (.d (.sl (xs.map ak.enc))),.c (.bL (0,0) y.2),.c (.d (.i .i64 y.1))]) (fun y=>[.tok 3 y.2]::S)
    (fun y=>y.1<=xs.length/\y.2=(xs.map ak.enc).take y.1) (fun y=>xs.length-y.1) (0,[]) rfl rfl ⟨Nat.zero_le _,rfl⟩ ?_
   rintro⟨i,es⟩ ⟨p1,p2⟩;simp only at p1 p2
   have pl:es.length<=xs.length:=by rw[p2];simp;omega
   simp -implicitDefEqProofs (disch:=omega) only[go_sem]
   with_reducible refine aA (fun hb=> ?_) (fun hb=> ?_)<;>have h:=hb<;>(try simp only[wf_preprocess] at h)<;>simp -implicitDefEqProofs (disch:=omega) only[go_sem,hb]<;>(repeat(with_reducible refine And.intro ?_ ?_;focus first|omega|rfl|assumption|exact⟨_,rfl,rfl⟩|(simp;omega)|(simp;done)))
   ·have hi:i<xs.length:=by omega
    have hx:xs[i].sz<=bA (xs.map ak.enc):=gD (List.mem_map_of_mem (List.getElem_mem hi))
    (repeat(with_reducible refine And.intro ?_ ?_;focus first|omega|rfl|assumption|exact⟨_,rfl,rfl⟩|(simp;omega)|(simp;done)))
    refine ay (ih xs[i] (by have:=List.sizeOf_lt_of_mem (List.getElem_mem hi);omega) (by omega)) ?_;simp -implicitDefEqProofs (disch:=omega) only[go_sem]
    (repeat(with_reducible refine And.intro ?_ ?_;focus first|omega|rfl|assumption|exact⟨_,rfl,rfl⟩|(simp;omega)|(simp;done)))
    exact cO (i+1,_) (by simp only;omega) rfl rfl ⟨by simp only;omega,by rw[p2];simp[List.take_succ_eq_append_getElem,hi,ak.aB]⟩
   ·have hi:i=xs.length:=by omega
    rw[p2,List.take_of_length_le (by rw[List.length_map];omega)]
theorem YB(x:ak)(h:x.sz<=4194304):aG prog 194 [x.v] x.v:=(I5 _).1 x (Nat.lt_succ_self _) h
end Go.Ab