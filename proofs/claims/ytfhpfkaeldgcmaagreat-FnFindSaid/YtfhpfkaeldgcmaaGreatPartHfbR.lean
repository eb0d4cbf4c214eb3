/-
  SEVERAL TEXTS IN ONE (merged by program): contracts and models, each with its own heading.
-/
import Derived.Test.YtfhpfkaeldgcmaaGreatPartHfbC
open Go.Proofs Go.Proofs.Tryz
set_option linter.unusedSimpArgs false
set_option linter.unusedVariables false
set_option maxRecDepth 4000
namespace Go.Ab
theorem zL:∀n:Nat,(∀x:ay,SizeOf.sizeOf x<n->∀y:ay,x.sz<=4194304->bg prog 231 [x.v,y.v] (.c (.d (.b (dec (x=y))))))/\
 (∀xs:List ay,SizeOf.sizeOf xs<n->∀ys:List ay,xs.length+aN (xs.map ay.enc)<=4194304->bg prog 246 [.c (.d (.sl (xs.map ay.enc))),.c (.d (.sl (ys.map ay.enc)))] (.c (.d (.b (dec (xs=ys))))))
 |0=>⟨fun x h=>by omega,fun x h=>by omega⟩
 |n+1=>by
  obtain⟨ih,wX⟩:=zL n;refine⟨fun x hn y hsz S=> ?_,fun xs hn ys hsz S=> ?_⟩
  ·have nu:=ay.jW x;simp only[ay.sz,ay.aj,bD,aY,D.sz,List.length_map] at hsz;refine zcx [.tmp 4] func231 ntmps231 ?_;simp -implicitDefEqProofs (disch:=omega) only[go_sem]
   with_reducible refine aD (fun hb=> ?_) (fun hb=> ?_)<;>have h:=hb<;>(try simp only[wf_preprocess] at h)<;>simp -implicitDefEqProofs (disch:=omega) only[go_sem,hb]<;>(repeat(with_reducible refine And.intro ?_ ?_;focus first|omega|rfl|assumption|exact⟨_,rfl,rfl⟩|(simp;omega)|(simp;done)))
   ·with_reducible refine aD (fun hb=> ?_) (fun hb=> ?_)<;>have h:=hb<;>(try simp only[wf_preprocess] at h)<;>simp -implicitDefEqProofs (disch:=omega) only[go_sem,hb]<;>(repeat(with_reducible refine And.intro ?_ ?_;focus first|omega|rfl|assumption|exact⟨_,rfl,rfl⟩|(simp;omega)|(simp;done)))
    ·(repeat(with_reducible refine And.intro ?_ ?_;focus first|omega|rfl|assumption|exact⟨_,rfl,rfl⟩|(simp;omega)|(simp;done)))
     refine aB (wX x.fArgs (by omega) y.fArgs (by omega)) ?_;simp -implicitDefEqProofs (disch:=omega) only[go_sem];refine bN (kX ⟨fun e=> ?_,fun e=>by rw[e]⟩);exact ay.ext ‹x.aV=y.aV› h e
    ·exact bN (bM (fun e=>h (by rw[e]))).symm
   ·exact bN (bM (fun e=>h (by rw[e]))).symm
  ·refine zcx [.tmp 4] func246 ntmps246 ?_;simp -implicitDefEqProofs (disch:=omega) only[go_sem]
   with_reducible refine aD (fun hb=> ?_) (fun hb=> ?_)<;>have h:=hb<;>(try simp only[wf_preprocess] at h)<;>simp -implicitDefEqProofs (disch:=omega) only[go_sem,hb]<;>(repeat(with_reducible refine And.intro ?_ ?_;focus first|omega|rfl|assumption|exact⟨_,rfl,rfl⟩|(simp;omega)|(simp;done)))
   ·exact bN (bM (fun e=>h (by rw[e]))).symm
   have hl:xs.length=ys.length:=by omega
   refine bO (ι:=Nat) zmx rfl [0,1,5] (fun y=>[.c (.d (.sl (xs.map ay.enc))),.c (.d (.sl (ys.map ay.enc))),.c (.d (.i .i64 y))]) (fun y=>[]::S)
    (fun i=>i<=xs.length/\∀j,j<i->xs[j]? =ys[j]?) (fun y=>xs.length-y) 0 rfl rfl ⟨Nat.zero_le _,fun j h=>by omega⟩ ?_
   rintro i ⟨p1,p2⟩;simp -implicitDefEqProofs (disch:=omega) only[go_sem]
   with_reducible refine aD (fun hb=> ?_) (fun hb=> ?_)<;>have h:=hb<;>(try simp only[wf_preprocess] at h)<;>simp -implicitDefEqProofs (disch:=omega) only[go_sem,hb]<;>(repeat(with_reducible refine And.intro ?_ ?_;focus first|omega|rfl|assumption|exact⟨_,rfl,rfl⟩|(simp;omega)|(simp;done)))
   ·have hi:i<xs.length:=by omega
    have hi':i<ys.length:=by omega
    have hx:xs[i].sz<=aN (xs.map ay.enc):=dx (List.mem_map_of_mem (List.getElem_mem hi))
    (repeat(with_reducible refine And.intro ?_ ?_;focus first|omega|rfl|assumption|exact⟨_,rfl,rfl⟩|(simp;omega)|(simp;done)))
    refine aB (ih xs[i] (by have:=List.sizeOf_lt_of_mem (List.getElem_mem hi);omega) ys[i] (by omega)) ?_;simp -implicitDefEqProofs (disch:=omega) only[go_sem]
    with_reducible refine aD (fun hb=> ?_) (fun hb=> ?_)<;>have h:=hb<;>(try simp only[wf_preprocess] at h)<;>simp -implicitDefEqProofs (disch:=omega) only[go_sem,hb]<;>(repeat(with_reducible refine And.intro ?_ ?_;focus first|omega|rfl|assumption|exact⟨_,rfl,rfl⟩|(simp;omega)|(simp;done)))
    ·exact bN (bM (fun e=>h (by simp only[e]))).symm
    refine cZ (i+1) (by omega) rfl rfl ⟨by omega,fun j hj=> ?_⟩;by_cases e:j=i
    ·subst e;rw[List.getElem?_eq_getElem hi,List.getElem?_eq_getElem hi',h]
    ·exact p2 j (by omega)
   ·have hi:i=xs.length:=by omega
    refine bN (dH (List.ext_getElem? fun j=> ?_)).symm;by_cases hj:j<i
    ·exact p2 j hj
    ·rw[List.getElem?_eq_none (by omega),List.getElem?_eq_none (by omega)]
theorem JH(x y:ay)(h:x.sz<=4194304):bg prog 231 [x.v,y.v] (.c (.d (.b (dec (x=y))))):=(zL _).1 x (Nat.lt_succ_self _) y h
theorem Lj:∀n:Nat,(∀x:ay,SizeOf.sizeOf x<n->x.sz<=4194304->bg prog 130 [x.v] x.v)/\
 (∀xs:List ay,SizeOf.sizeOf xs<n->xs.length+aN (xs.map ay.enc)<=4194304->bg prog 89 [.c (.d (.sl (xs.map ay.enc)))] (.c (.d (.sl (xs.map ay.enc)))))
 |0=>⟨fun x h=>by omega,fun x h=>by omega⟩
 |n+1=>by
  obtain⟨ih,wX⟩:=Lj n;refine⟨fun x hn hsz S=> ?_,fun xs hn hsz S=> ?_⟩
  ·have nu:=ay.jW x;simp only[ay.sz,ay.aj,bD,aY,D.sz,List.length_map] at hsz;refine zcx [.cell 2 41] func130 ntmps130 ?_;simp -implicitDefEqProofs (disch:=omega) only[go_sem];refine aB (wX x.fArgs (by omega) (by omega)) ?_;simp -implicitDefEqProofs (disch:=omega) only[go_sem]
  ·refine zcx [.tmp 2] func89 ntmps89 ?_;simp -implicitDefEqProofs (disch:=omega) only[go_sem];refine iZ 3 3 [] rfl (by simp) ?_
   refine bO (ι:=Nat×List (List D)) zmx rfl [0,3,4] (fun y=>[.c (.d (.sl (xs.map ay.enc))),.c (.bS (0,0) y.2),.c (.d (.i .i64 y.1))]) (fun y=>[.tok 3 y.2]::S)
    (fun y=>y.1<=xs.length/\y.2=(xs.map ay.enc).take y.1) (fun y=>xs.length-y.1) (0,[]) rfl rfl ⟨Nat.zero_le _,rfl⟩ ?_
   rintro⟨i,es⟩ ⟨p1,p2⟩;simp only at p1 p2
   have pl:es.length<=xs.length:=by rw[p2];simp;omega
   simp -implicitDefEqProofs (disch:=omega) only[go_sem]
   with_reducible refine aD (fun hb=> ?_) (fun hb=> ?_)<;>have h:=hb<;>(try simp only[wf_preprocess] at h)<;>simp -implicitDefEqProofs (disch:=omega) only[go_sem,hb]<;>(repeat(with_reducible refine And.intro ?_ ?_;focus first|omega|rfl|assumption|exact⟨_,rfl,rfl⟩|(simp;omega)|(simp;done)))
   ·have hi:i<xs.length:=by omega
    have hx:xs[i].sz<=aN (xs.map ay.enc):=dx (List.mem_map_of_mem (List.getElem_mem hi))
    (repeat(with_reducible refine And.intro ?_ ?_;focus first|omega|rfl|assumption|exact⟨_,rfl,rfl⟩|(simp;omega)|(simp;done)))
    refine aB (ih xs[i] (by have:=List.sizeOf_lt_of_mem (List.getElem_mem hi);omega) (by omega)) ?_;simp -implicitDefEqProofs (disch:=omega) only[go_sem]
    (repeat(with_reducible refine And.intro ?_ ?_;focus first|omega|rfl|assumption|exact⟨_,rfl,rfl⟩|(simp;omega)|(simp;done)))
    exact cZ (i+1,_) (by simp only;omega) rfl rfl ⟨by simp only;omega,by rw[p2];simp[List.take_succ_eq_append_getElem,hi,ay.aj]⟩
   ·have hi:i=xs.length:=by omega
    rw[p2,List.take_of_length_le (by rw[List.length_map];omega)]
theorem aaL(x:ay)(h:x.sz<=4194304):bg prog 130 [x.v] x.v:=(Lj _).1 x (Nat.lt_succ_self _) h
end Go.Ab