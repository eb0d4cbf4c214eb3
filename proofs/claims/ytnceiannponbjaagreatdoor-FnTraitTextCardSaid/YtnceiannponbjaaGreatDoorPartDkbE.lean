/-
  SEVERAL TEXTS IN ONE (merged by program): contracts and models, each with its own heading.
-/
import Derived.Test.YtnceiannponbjaaGreatDoorPartDkbC
open Go.Proofs Go.Proofs.Tryz
set_option linter.unusedSimpArgs false
set_option linter.unusedVariables false
set_option maxRecDepth 4000
namespace Go.Ab
theorem xP:∀n:Nat,(∀x:ak,SizeOf.sizeOf x<n->∀y:ak,x.sz<=4194304->aG prog 220 [x.v,y.v] (.c (.d (.b (dec (x=y))))))/\
 (∀xs:List ak,SizeOf.sizeOf xs<n->∀ys:List ak,xs.length+bC (xs.map ak.enc)<=4194304->aG prog 234 [.c (.d (.sl (xs.map ak.enc))),.c (.d (.sl (ys.map ak.enc)))] (.c (.d (.b (dec (xs=ys))))))
 |0=>⟨fun x h=>by omega,fun x h=>by omega⟩
 |n+1=>by
  obtain⟨ih,mo⟩:=xP n;refine⟨fun x hn y hsz S=> ?_,fun xs hn ys hsz S=> ?_⟩
  ·have je:=ak.gZ x;simp only[ak.sz,ak.aB,bN,bR,D.sz,List.length_map] at hsz;refine zcx [.tmp 4] func220 ntmps220 ?_;simp -implicitDefEqProofs (disch:=omega) only[go_sem]
   with_reducible refine aA (fun hb=> ?_) (fun hb=> ?_)<;>have h:=hb<;>(try simp only[wf_preprocess] at h)<;>simp -implicitDefEqProofs (disch:=omega) only[go_sem,hb]<;>(repeat(with_reducible refine And.intro ?_ ?_;focus first|omega|rfl|assumption|exact⟨_,rfl,rfl⟩|(simp;omega)|(simp;done)))
   ·with_reducible refine aA (fun hb=> ?_) (fun hb=> ?_)<;>have h:=hb<;>(try simp only[wf_preprocess] at h)<;>simp -implicitDefEqProofs (disch:=omega) only[go_sem,hb]<;>(repeat(with_reducible refine And.intro ?_ ?_;focus first|omega|rfl|assumption|exact⟨_,rfl,rfl⟩|(simp;omega)|(simp;done)))
    ·(repeat(with_reducible refine And.intro ?_ ?_;focus first|omega|rfl|assumption|exact⟨_,rfl,rfl⟩|(simp;omega)|(simp;done)))
     refine au (mo x.fArgs (by omega) y.fArgs (by omega)) ?_;simp -implicitDefEqProofs (disch:=omega) only[go_sem];refine aI (iT ⟨fun e=> ?_,fun e=>by rw[e]⟩);exact ak.ext ‹x.aL=y.aL› h e
    ·exact aI (aO (fun e=>h (by rw[e]))).symm
   ·exact aI (aO (fun e=>h (by rw[e]))).symm
  ·refine zcx [.tmp 4] func234 ntmps234 ?_;simp -implicitDefEqProofs (disch:=omega) only[go_sem]
   with_reducible refine aA (fun hb=> ?_) (fun hb=> ?_)<;>have h:=hb<;>(try simp only[wf_preprocess] at h)<;>simp -implicitDefEqProofs (disch:=omega) only[go_sem,hb]<;>(repeat(with_reducible refine And.intro ?_ ?_;focus first|omega|rfl|assumption|exact⟨_,rfl,rfl⟩|(simp;omega)|(simp;done)))
   ·exact aI (aO (fun e=>h (by rw[e]))).symm
   have hl:xs.length=ys.length:=by omega
   refine aZ (ι:=Nat) zmx rfl [0,1,5] (fun y=>[.c (.d (.sl (xs.map ak.enc))),.c (.d (.sl (ys.map ak.enc))),.c (.d (.i .i64 y))]) (fun y=>[]::S)
    (fun i=>i<=xs.length/\∀j,j<i->xs[j]? =ys[j]?) (fun y=>xs.length-y) 0 rfl rfl ⟨Nat.zero_le _,fun j h=>by omega⟩ ?_
   rintro i ⟨p1,p2⟩;simp -implicitDefEqProofs (disch:=omega) only[go_sem]
   with_reducible refine aA (fun hb=> ?_) (fun hb=> ?_)<;>have h:=hb<;>(try simp only[wf_preprocess] at h)<;>simp -implicitDefEqProofs (disch:=omega) only[go_sem,hb]<;>(repeat(with_reducible refine And.intro ?_ ?_;focus first|omega|rfl|assumption|exact⟨_,rfl,rfl⟩|(simp;omega)|(simp;done)))
   ·have hi:i<xs.length:=by omega
    have hi':i<ys.length:=by omega
    have hx:xs[i].sz<=bC (xs.map ak.enc):=fI (List.mem_map_of_mem (List.getElem_mem hi))
    (repeat(with_reducible refine And.intro ?_ ?_;focus first|omega|rfl|assumption|exact⟨_,rfl,rfl⟩|(simp;omega)|(simp;done)))
    refine au (ih xs[i] (by have:=List.sizeOf_lt_of_mem (List.getElem_mem hi);omega) ys[i] (by omega)) ?_;simp -implicitDefEqProofs (disch:=omega) only[go_sem]
    with_reducible refine aA (fun hb=> ?_) (fun hb=> ?_)<;>have h:=hb<;>(try simp only[wf_preprocess] at h)<;>simp -implicitDefEqProofs (disch:=omega) only[go_sem,hb]<;>(repeat(with_reducible refine And.intro ?_ ?_;focus first|omega|rfl|assumption|exact⟨_,rfl,rfl⟩|(simp;omega)|(simp;done)))
    ·exact aI (aO (fun e=>h (by simp only[e]))).symm
    refine cK (i+1) (by omega) rfl rfl ⟨by omega,fun j hj=> ?_⟩;by_cases e:j=i
    ·subst e;rw[List.getElem?_eq_getElem hi,List.getElem?_eq_getElem hi',h]
    ·exact p2 j (by omega)
   ·have hi:i=xs.length:=by omega
    refine aI (bJ (List.ext_getElem? fun j=> ?_)).symm;by_cases hj:j<i
    ·exact p2 j hj
    ·rw[List.getElem?_eq_none (by omega),List.getElem?_eq_none (by omega)]
theorem Gv(x y:ak)(h:x.sz<=4194304):aG prog 220 [x.v,y.v] (.c (.d (.b (dec (x=y))))):=(xP _).1 x (Nat.lt_succ_self _) y h
theorem xQ:∀n:Nat,(∀x:ak,SizeOf.sizeOf x<n->∀y:ak,x.sz<=4194304->aG prog 215 [x.v,y.v] (.c (.d (.b (dec (x=y))))))/\
 (∀xs:List ak,SizeOf.sizeOf xs<n->∀ys:List ak,xs.length+bC (xs.map ak.enc)<=4194304->aG prog 233 [.c (.d (.sl (xs.map ak.enc))),.c (.d (.sl (ys.map ak.enc))),.c (.fn 215 [])] (.c (.d (.b (dec (xs=ys))))))
 |0=>⟨fun x h=>by omega,fun x h=>by omega⟩
 |n+1=>by
  obtain⟨ih,mo⟩:=xQ n;refine⟨fun x hn y hsz S=> ?_,fun xs hn ys hsz S=> ?_⟩
  ·have je:=ak.gZ x;simp only[ak.sz,ak.aB,bN,bR,D.sz,List.length_map] at hsz;refine zcx [.tmp 4] func215 ntmps215 ?_;simp -implicitDefEqProofs (disch:=omega) only[go_sem]
   with_reducible refine aA (fun hb=> ?_) (fun hb=> ?_)<;>have h:=hb<;>(try simp only[wf_preprocess] at h)<;>simp -implicitDefEqProofs (disch:=omega) only[go_sem,hb]<;>(repeat(with_reducible refine And.intro ?_ ?_;focus first|omega|rfl|assumption|exact⟨_,rfl,rfl⟩|(simp;omega)|(simp;done)))
   ·with_reducible refine aA (fun hb=> ?_) (fun hb=> ?_)<;>have h:=hb<;>(try simp only[wf_preprocess] at h)<;>simp -implicitDefEqProofs (disch:=omega) only[go_sem,hb]<;>(repeat(with_reducible refine And.intro ?_ ?_;focus first|omega|rfl|assumption|exact⟨_,rfl,rfl⟩|(simp;omega)|(simp;done)))
    ·(repeat(with_reducible refine And.intro ?_ ?_;focus first|omega|rfl|assumption|exact⟨_,rfl,rfl⟩|(simp;omega)|(simp;done)))
     refine au (mo x.fArgs (by omega) y.fArgs (by omega)) ?_;simp -implicitDefEqProofs (disch:=omega) only[go_sem];refine aI (iT ⟨fun e=> ?_,fun e=>by rw[e]⟩);exact ak.ext ‹x.aL=y.aL› h e
    ·exact aI (aO (fun e=>h (by rw[e]))).symm
   ·exact aI (aO (fun e=>h (by rw[e]))).symm
  ·refine zcx [.tmp 6] func233 ntmps233 ?_;simp -implicitDefEqProofs (disch:=omega) only[go_sem]
   with_reducible refine aA (fun hb=> ?_) (fun hb=> ?_)<;>have h:=hb<;>(try simp only[wf_preprocess] at h)<;>simp -implicitDefEqProofs (disch:=omega) only[go_sem,hb]<;>(repeat(with_reducible refine And.intro ?_ ?_;focus first|omega|rfl|assumption|exact⟨_,rfl,rfl⟩|(simp;omega)|(simp;done)))
   ·exact aI (aO (fun e=>h (by rw[e]))).symm
   have hl:xs.length=ys.length:=by omega
   refine aZ (ι:=Nat) zmx rfl [1,2,15,16,17] (fun y=>[.c (.d (.sl (ys.map ak.enc))),.c (.fn 215 []),.c (.d (.sl (xs.map ak.enc))),.c (.d (.i .i64 xs.length)),.c (.d (.i .i64 y))]) (fun y=>[]::S)
    (fun i=>i<=xs.length/\∀j,j<i->xs[j]? =ys[j]?) (fun y=>xs.length-y) 0 rfl rfl ⟨Nat.zero_le _,fun j h=>by omega⟩ ?_
   rintro i ⟨p1,p2⟩;simp -implicitDefEqProofs (disch:=omega) only[go_sem]
   with_reducible refine aA (fun hb=> ?_) (fun hb=> ?_)<;>have h:=hb<;>(try simp only[wf_preprocess] at h)<;>simp -implicitDefEqProofs (disch:=omega) only[go_sem,hb]<;>(repeat(with_reducible refine And.intro ?_ ?_;focus first|omega|rfl|assumption|exact⟨_,rfl,rfl⟩|(simp;omega)|(simp;done)))
   ·have hi:i<xs.length:=by omega
    have hi':i<ys.length:=by omega
    have hx:xs[i].sz<=bC (xs.map ak.enc):=fI (List.mem_map_of_mem (List.getElem_mem hi))
    (repeat(with_reducible refine And.intro ?_ ?_;focus first|omega|rfl|assumption|exact⟨_,rfl,rfl⟩|(simp;omega)|(simp;done)))
    refine au (ih xs[i] (by have:=List.sizeOf_lt_of_mem (List.getElem_mem hi);omega) ys[i] (by omega)) ?_;simp -implicitDefEqProofs (disch:=omega) only[go_sem]
    with_reducible refine aA (fun hb=> ?_) (fun hb=> ?_)<;>have h:=hb<;>(try simp only[wf_preprocess] at h)<;>simp -implicitDefEqProofs (disch:=omega) only[go_sem,hb]<;>(repeat(with_reducible refine And.intro ?_ ?_;focus first|omega|rfl|assumption|exact⟨_,rfl,rfl⟩|(simp;omega)|(simp;done)))
    ·exact aI (aO (fun e=>h (by simp only[e]))).symm
    refine dD 0 (by decide) (i+1) (by omega) rfl rfl rfl rfl ⟨by omega,fun j hj=> ?_⟩;by_cases e:j=i
    ·subst e;rw[List.getElem?_eq_getElem hi,List.getElem?_eq_getElem hi',h]
    ·exact p2 j (by omega)
   ·have hi:i=xs.length:=by omega
    refine aI (bJ (List.ext_getElem? fun j=> ?_)).symm;by_cases hj:j<i
    ·exact p2 j hj
    ·rw[List.getElem?_eq_none (by omega),List.getElem?_eq_none (by omega)]
theorem Gw(x y:ak)(h:x.sz<=4194304):aG prog 215 [x.v,y.v] (.c (.d (.b (dec (x=y))))):=(xQ _).1 x (Nat.lt_succ_self _) y h
end Go.Ab