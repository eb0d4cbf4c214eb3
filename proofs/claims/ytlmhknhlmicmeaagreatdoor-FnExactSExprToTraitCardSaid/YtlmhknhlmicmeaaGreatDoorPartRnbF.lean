/-
  SEVERAL TEXTS IN ONE (merged by program): contracts and models, each with its own heading.
-/
import Derived.Test.YtlmhknhlmicmeaaGreatDoorPartRnbE
set_option linter.unusedSimpArgs false
set_option linter.unusedVariables false
set_option maxRecDepth 4000
set_option maxRecDepth 8000
namespace Go.Ab
theorem au.aar{x:au}{y:au}(h:y∈x.fArgs):y.cnt+1≤x.cnt:=by
 rw[au.lS x]
 have:∀xs:List au,y∈xs→y.cnt≤au.bY xs:=by
  intro xs
  induction xs with
  |nil=>intro h;cases h
  |cons z zs ih=>
   intro h
   rw[au.bY]
   rcases List.mem_cons.1 h with e|e
   ·subst e;omega
   ·have:=ih e;omega
 have:=this _ h
 omega
theorem au.aas{x:au}{y:aJ}(h:y∈x.aK):y.fBody.cnt+1≤x.cnt:=by
 rw[au.lS x]
 have:∀xs:List aJ,y∈xs→y.fBody.cnt≤aJ.bY xs:=by
  intro xs
  induction xs with
  |nil=>intro h;cases h
  |cons z zs ih=>
   intro h
   rw[aJ.bY]
   rcases List.mem_cons.1 h with e|e
   ·subst e;rw[aJ.lS];omega
   ·have:=ih e;omega
 have:=this _ h
 omega
theorem au.aat(x:au):x.fArgs.length+1≤x.cnt:=by
 rw[au.lS x]
 have:∀xs:List au,xs.length≤au.bY xs:=by
  intro xs
  induction xs with
  |nil=>simp
  |cons z zs ih=>rw[au.bY,List.length_cons];have:=au.lS z;omega
 have:=this x.fArgs
 omega
def SQ(k:Int):Bool:=if k=5∨k=11 then true else false
def SS(k:Int):Bool:=if k=3∨k=4∨k=6∨k=5∨k=8∨k=10 then true else false
def SV(k:Int):Bool:=if k=1∨k=2 then true else false
def SX(k:Int):Bool:=if k=1∨k=2∨k=3∨k=4∨k=6∨k=5∨k=7∨k=8∨k=10∨k=9∨k=11 then false else true
def SY(k:Int):Int:=if k=1∨k=2∨k=3 then 0 else if k=4∨k=6∨k=5 then -1 else if k=8∨k=10 then 2 else if k=9 then 3 else 1
def S9(k:Int):Bool:=if k=7 then true else false
end Go.Ab
namespace Go.Proofs.YtlmhknhlmicmeaaGreatDoor
open Go Go.Ab
theorem HY:∀n:Nat,∀x:au,SizeOf.sizeOf x<n→x.sz≤4194304→x.cnt≤300→aI Tryz.prog 211 [x.v] (.c (.d (.b (gK x))))
 |0=>fun x h=>by omega
 |n+1=>by
  have ih:=HY n
  intro x hn hsz hc S
  have hb0:=au.bounds hsz
  have gZ:=au.fq x
  have vw:=au.kJ x
  have hl:=au.aat x
  have h1:∀y∈x.fArgs,aI Tryz.prog 284 [y.v] (.c (.d (.b (!gK y)))):=fun y hy S=>by
   have hys:=List.sizeOf_lt_of_mem hy
   have hyc:=au.aar hy
   have hyz:y.sz≤4194304:=by obtain⟨i,hi,e⟩:=List.getElem_of_mem hy;rw[←e];exact au.arg_b hi hsz
   refine aF (rs:=[.tmp 2]) Tryz.checked.mixed Tryz.func284 Tryz.ntmps284 rfl rfl rfl rfl rfl ?_
   simp -implicitDefEqProofs (disch:=omega) only[go_sem]
   refine ay (ih y (by omega) hyz (by omega)) ?_
   simp -implicitDefEqProofs (disch:=omega) only[go_sem]<;>(repeat(with_reducible refine And.intro ?_ ?_;focus first|omega|rfl|assumption|exact⟨_,rfl,rfl⟩|(simp;omega)|(simp;done)))
  have h2:∀y∈x.aK,aI Tryz.prog 286 [y.v] (.c (.d (.b (!qU y)))):=fun y hy S=>by
   have hys:=List.sizeOf_lt_of_mem hy
   have hyb:=aJ.j3 y
   have hyc:=au.aas hy
   have hyz:y.sz≤4194304:=by obtain⟨i,hi,e⟩:=List.getElem_of_mem hy;rw[←e];exact au.KY hi hsz
   have hyy:=aJ.bounds hyz
   refine aF (rs:=[.tmp 2]) Tryz.checked.mixed Tryz.func286 Tryz.ntmps286 rfl rfl rfl rfl rfl ?_
   simp -implicitDefEqProofs (disch:=omega) only[go_sem]
   refine ay (jy y.bP (by omega)) ?_
   simp -implicitDefEqProofs (disch:=omega) only[go_sem]<;>(repeat(with_reducible refine And.intro ?_ ?_;focus first|omega|rfl|assumption|exact⟨_,rfl,rfl⟩|(simp;omega)|(simp;done)))
   with_reducible refine aA (fun hb=> ?_) (fun hb=> ?_)<;>have h:=hb<;>(try simp only[wf_preprocess] at h)<;>simp -implicitDefEqProofs (disch:=omega) only[go_sem,hb]<;>(repeat(with_reducible refine And.intro ?_ ?_;focus first|omega|rfl|assumption|exact⟨_,rfl,rfl⟩|(simp;omega)|(simp;done)))
   ·exact aD (by rw[nJ,h];rfl)
   have k1:=h
   refine ay (zm y.aN (by omega) hyy.2.2.1) ?_
   simp -implicitDefEqProofs (disch:=omega) only[go_sem]<;>(repeat(with_reducible refine And.intro ?_ ?_;focus first|omega|rfl|assumption|exact⟨_,rfl,rfl⟩|(simp;omega)|(simp;done)))
   with_reducible refine aA (fun hb=> ?_) (fun hb=> ?_)<;>have h:=hb<;>(try simp only[wf_preprocess] at h)<;>simp -implicitDefEqProofs (disch:=omega) only[go_sem,hb]<;>(repeat(with_reducible refine And.intro ?_ ?_;focus first|omega|rfl|assumption|exact⟨_,rfl,rfl⟩|(simp;omega)|(simp;done)))
   ·exact aD (by rw[nJ,h];simp)
   have k2:=h
   refine ay (ih y.fBody (by omega) hyy.2.2.2 (by omega)) ?_
   simp -implicitDefEqProofs (disch:=omega) only[go_sem]<;>(repeat(with_reducible refine And.intro ?_ ?_;focus first|omega|rfl|assumption|exact⟨_,rfl,rfl⟩|(simp;omega)|(simp;done)))
   exact aD (by rw[nJ,k1,k2];simp)
  refine aF (rs:=[.tmp 2]) Tryz.checked.mixed Tryz.func211 Tryz.ntmps211 rfl rfl rfl rfl rfl ?_
  simp -implicitDefEqProofs (disch:=omega) only[go_sem]
  refine ay (Ny x hsz (by omega)) ?_
  simp -implicitDefEqProofs (disch:=omega) only[go_sem]<;>(repeat(with_reducible refine And.intro ?_ ?_;focus first|omega|rfl|assumption|exact⟨_,rfl,rfl⟩|(simp;omega)|(simp;done)))
  with_reducible refine aA (fun hb=> ?_) (fun hb=> ?_)<;>have h:=hb<;>(try simp only[wf_preprocess] at h)<;>simp -implicitDefEqProofs (disch:=omega) only[go_sem,hb]<;>(repeat(with_reducible refine And.intro ?_ ?_;focus first|omega|rfl|assumption|exact⟨_,rfl,rfl⟩|(simp;omega)|(simp;done)))
  ·exact aD (by rw[sV,aL h];rfl)
  have k1:=h
  (repeat(with_reducible refine And.intro ?_ ?_;focus first|omega|rfl|assumption|exact⟨_,rfl,rfl⟩|(simp;omega)|(simp;done)))
  refine bq rfl (BK 284 [] _ x.fArgs (fun y=> !gK y) (by omega) fun y hy=>mP.IJ (h1 y hy)) ?_
  simp -implicitDefEqProofs (disch:=omega) only[go_sem]
  rw[Ew]
  with_reducible refine aA (fun hb=> ?_) (fun hb=> ?_)<;>have h:=hb<;>(try simp only[wf_preprocess] at h)<;>simp -implicitDefEqProofs (disch:=omega) only[go_sem,hb]<;>(repeat(with_reducible refine And.intro ?_ ?_;focus first|omega|rfl|assumption|exact⟨_,rfl,rfl⟩|(simp;omega)|(simp;done)))
  ·exact aD (by rw[sV,h];simp)
  have k2:=h
  (repeat(with_reducible refine And.intro ?_ ?_;focus first|omega|rfl|assumption|exact⟨_,rfl,rfl⟩|(simp;omega)|(simp;done)))
  refine bq rfl (Cv 286 [] _ x.aK (fun y=> !qU y) (by omega) fun y hy=>mP.IJ (h2 y hy)) ?_
  simp -implicitDefEqProofs (disch:=omega) only[go_sem]
  rw[GU]
  exact aD (by rw[sV,bC k1,k2];simp)
theorem Fh(x:au)(hsz:x.sz≤4194304):aI Tryz.prog 111 [x.v] (.c (.d (.b (nA x)))):=fun S=>by
 refine aF (rs:=[.tmp 2]) Tryz.checked.mixed Tryz.func111 Tryz.ntmps111 rfl rfl rfl rfl rfl ?_
 simp -implicitDefEqProofs (disch:=omega) only[go_sem]
 refine ay (Gz x hsz) ?_
 simp -implicitDefEqProofs (disch:=omega) only[go_sem]<;>(repeat(with_reducible refine And.intro ?_ ?_;focus first|omega|rfl|assumption|exact⟨_,rfl,rfl⟩|(simp;omega)|(simp;done)))
 with_reducible refine aA (fun hb=> ?_) (fun hb=> ?_)<;>have h:=hb<;>(try simp only[wf_preprocess] at h)<;>simp -implicitDefEqProofs (disch:=omega) only[go_sem,hb]<;>(repeat(with_reducible refine And.intro ?_ ?_;focus first|omega|rfl|assumption|exact⟨_,rfl,rfl⟩|(simp;omega)|(simp;done)))
 ·refine ay (HY _ x (Nat.lt_succ_self _) hsz (by omega)) ?_
  simp -implicitDefEqProofs (disch:=omega) only[go_sem]<;>(repeat(with_reducible refine And.intro ?_ ?_;focus first|omega|rfl|assumption|exact⟨_,rfl,rfl⟩|(simp;omega)|(simp;done)))
  exact aD (by unfold nA;rw[bC (by omega)];rfl)
 ·exact aD (by unfold nA;rw[aL (by omega)];rfl)
theorem Kg(k:Int):aI Tryz.prog 278 [.c (.d (.i .i64 k))] (.d9 [(false,[.d (.b (SQ k))]),(false,[.d (.b (SS k))]),(false,[.d (.b (SV k))]),(false,[.d (.b (SX k))]),(false,[.d (.i .i64 (SY k))]),(false,[.d (.b (S9 k))])]):=fun S=>by
 refine aF (rs:=[.tmp 2,.tmp 3,.tmp 4,.tmp 5,.tmp 6,.tmp 7]) Tryz.checked.mixed Tryz.func278 Tryz.ntmps278 rfl rfl rfl rfl rfl ?_
 simp -implicitDefEqProofs (disch:=omega) only[go_sem]
 repeat' (first
  |with_reducible refine aA (fun hb=> ?_) (fun hb=> ?_)<;>have h:=hb<;>(try simp only[wf_preprocess] at h)<;>simp -implicitDefEqProofs (disch:=omega) only[go_sem,hb]<;>(repeat(with_reducible refine And.intro ?_ ?_;focus first|omega|rfl|assumption|exact⟨_,rfl,rfl⟩|(simp;omega)|(simp;done)))
  |(unfold SQ SS SV SX SY S9;grind))
theorem Ta(t:aj):aI Tryz.prog 254 [t.v] (.c (.d (.b (dec (yT t))))):=fun S=>by
 refine aF (rs:=[.tmp 2]) Tryz.checked.mixed Tryz.func254 Tryz.ntmps254 rfl rfl rfl rfl rfl ?_
 simp -implicitDefEqProofs (disch:=omega) only[go_sem]
 repeat' (first
  |with_reducible refine aA (fun hb=> ?_) (fun hb=> ?_)<;>have h:=hb<;>(try simp only[wf_preprocess] at h)<;>simp -implicitDefEqProofs (disch:=omega) only[go_sem,hb]<;>(repeat(with_reducible refine And.intro ?_ ?_;focus first|omega|rfl|assumption|exact⟨_,rfl,rfl⟩|(simp;omega)|(simp;done)))
  |(refine aD ?_;unfold yT;grind [bC,aL,iH,qB]))
theorem Tc(s:List UInt8):aI Tryz.prog 279 [.c (.d (.s s))] (.c (.d (.b (dec (s∈ops))))):=fun S=>by
 refine aF (rs:=[.tmp 2]) Tryz.checked.mixed Tryz.func279 Tryz.ntmps279 rfl rfl rfl rfl rfl ?_
 simp -implicitDefEqProofs (disch:=omega) only[go_sem]
 (repeat(with_reducible refine And.intro ?_ ?_;focus first|omega|rfl|assumption|exact⟨_,rfl,rfl⟩|(simp;omega)|(simp;done)))
 refine ay (nI ops s (by decide)) ?_
 simp -implicitDefEqProofs (disch:=omega) only[go_sem]<;>(repeat(with_reducible refine And.intro ?_ ?_;focus first|omega|rfl|assumption|exact⟨_,rfl,rfl⟩|(simp;omega)|(simp;done)))
theorem EF:∀n:Nat,∀x:au,SizeOf.sizeOf x<n→x.sz≤4194304→∀l:Int,0≤l→l≤1048576→aI Tryz.prog 203 [x.v,.c (.d (.i .i64 l))] (.c (.d (.i .i64 (lg l x.cnt))))
 |0=>fun x h=>by omega
 |n+1=>by
  have ih:=EF n
  intro x hn hsz l hl hl2 S
  have hb0:=au.bounds hsz
  have gZ:=au.fq x
  have vw:=au.kJ x
  have he:=au.lS x
  refine aF (rs:=[.tmp 4]) Tryz.checked.mixed Tryz.func203 Tryz.ntmps203 rfl rfl rfl rfl rfl ?_
  simp -implicitDefEqProofs (disch:=omega) only[go_sem]
  refine aX (ι:=Nat×Int) Tryz.checked.mixed rfl [1,2,5] (fun y=>[.c (.d (.i .i64 y.2)),.c (.ptr (0,0) 0),.c (.d (.i .i64 y.1))]) (fun y=>[.box (x.enc.map .d)]::S)
   (fun y=>y.1≤x.fArgs.length∧(-1≤y.2∧y.2≤1048576)∧lg y.2 (au.bY (x.fArgs.drop y.1))=lg (l-1) (au.bY x.fArgs)) (fun y=>x.fArgs.length-y.1) (0,l-1) rfl ?_ ⟨Nat.zero_le _,by simp only;omega,rfl⟩ ?_
  ·simp -implicitDefEqProofs (disch:=omega) only[go_sem]
  rintro⟨i,c⟩ ⟨p1,p2,p3⟩
  simp only at p1 p2 p3
  have out:(i=x.fArgs.length∨c<0)→c=lg (l-1) (au.bY x.fArgs):=fun h=>by
   rcases h with h|h
   ·rw[h,List.drop_length,au.bY,Cx p2.1] at p3
    exact p3
   ·rw[←p3,EW h];omega
  have second:(i=x.fArgs.length∨c<0)→lg c (aJ.bY x.aK)=lg l x.cnt:=fun h=>by
   rw[out h,AR,he]
   unfold lg
   split<;>split<;>(try split)<;>omega
  simp -implicitDefEqProofs (disch:=omega) only[go_sem]
  with_reducible refine aA (fun hb=> ?_) (fun hb=> ?_)<;>have h:=hb<;>(try simp only[wf_preprocess] at h)<;>simp -implicitDefEqProofs (disch:=omega) only[go_sem,hb]<;>(repeat(with_reducible refine And.intro ?_ ?_;focus first|omega|rfl|assumption|exact⟨_,rfl,rfl⟩|(simp;omega)|(simp;done)))
  ·have hi:i<x.fArgs.length:=by omega
   with_reducible refine aA (fun hb=> ?_) (fun hb=> ?_)<;>have h:=hb<;>(try simp only[wf_preprocess] at h)<;>simp -implicitDefEqProofs (disch:=omega) only[go_sem,hb]<;>(repeat(with_reducible refine And.intro ?_ ?_;focus first|omega|rfl|assumption|exact⟨_,rfl,rfl⟩|(simp;omega)|(simp;done)))
   ·have hs:=List.sizeOf_lt_of_mem (List.getElem_mem hi)
    have hr:=IZ (l:=c) (c:=x.fArgs[i].cnt) (by omega)
    rw[au.jH hi,←AR] at p3
    (repeat(with_reducible refine And.intro ?_ ?_;focus first|omega|rfl|assumption|exact⟨_,rfl,rfl⟩|(simp;omega)|(simp;done)))
    refine ay (ih x.fArgs[i] (by omega) (au.arg_b hi hsz) c (by omega) (by omega)) ?_
    simp -implicitDefEqProofs (disch:=omega) only[go_sem]<;>(repeat(with_reducible refine And.intro ?_ ?_;focus first|omega|rfl|assumption|exact⟨_,rfl,rfl⟩|(simp;omega)|(simp;done)))
    exact bI (i+1,lg c x.fArgs[i].cnt) (by simp only;omega) rfl rfl ⟨by simp only;omega,by simp only;omega,p3⟩
   ·have p4:=second (.inr (by omega))
    clear second out p3
    refine aX (ι:=Nat×Int) Tryz.checked.mixed rfl [1,2,6] (fun y=>[.c (.d (.i .i64 y.2)),.c (.ptr (0,0) 0),.c (.d (.i .i64 y.1))]) (fun y=>[.box (x.enc.map .d)]::S)
     (fun y=>y.1≤x.aK.length∧(-1≤y.2∧y.2≤1048576)∧lg y.2 (aJ.bY (x.aK.drop y.1))=lg l x.cnt) (fun y=>x.aK.length-y.1) (0,c) rfl ?_ ⟨Nat.zero_le _,by simp only;omega,p4⟩ ?_
    ·simp -implicitDefEqProofs (disch:=omega) only[go_sem]
    clear p1 p2 p4
    rintro⟨i,d⟩ ⟨p1,p2,p3⟩
    simp only at p1 p2 p3
    simp -implicitDefEqProofs (disch:=omega) only[go_sem]
    with_reducible refine aA (fun hb=> ?_) (fun hb=> ?_)<;>have h:=hb<;>(try simp only[wf_preprocess] at h)<;>simp -implicitDefEqProofs (disch:=omega) only[go_sem,hb]<;>(repeat(with_reducible refine And.intro ?_ ?_;focus first|omega|rfl|assumption|exact⟨_,rfl,rfl⟩|(simp;omega)|(simp;done)))
    ·have hi:i<x.aK.length:=by omega
     with_reducible refine aA (fun hb=> ?_) (fun hb=> ?_)<;>have h:=hb<;>(try simp only[wf_preprocess] at h)<;>simp -implicitDefEqProofs (disch:=omega) only[go_sem,hb]<;>(repeat(with_reducible refine And.intro ?_ ?_;focus first|omega|rfl|assumption|exact⟨_,rfl,rfl⟩|(simp;omega)|(simp;done)))
     ·have hs:=List.sizeOf_lt_of_mem (List.getElem_mem hi)
      have hs':=aJ.j3 x.aK[i]
      have hr:=IZ (l:=d) (c:=x.aK[i].fBody.cnt) (by omega)
      rw[aJ.jH hi,←AR] at p3
      (repeat(with_reducible refine And.intro ?_ ?_;focus first|omega|rfl|assumption|exact⟨_,rfl,rfl⟩|(simp;omega)|(simp;done)))
      refine ay (ih x.aK[i].fBody (by omega) (aJ.bounds (au.KY hi hsz)).2.2.2 d (by omega) (by omega)) ?_
      simp -implicitDefEqProofs (disch:=omega) only[go_sem]<;>(repeat(with_reducible refine And.intro ?_ ?_;focus first|omega|rfl|assumption|exact⟨_,rfl,rfl⟩|(simp;omega)|(simp;done)))
      exact bI (i+1,lg d x.aK[i].fBody.cnt) (by simp only;omega) rfl rfl ⟨by simp only;omega,by simp only;omega,p3⟩
     ·rw[EW (by omega)] at p3
      exact int_eq (by omega)
    ·have hi:i=x.aK.length:=by omega
     rw[hi,List.drop_length,aJ.bY,Cx p2.1] at p3
     exact int_eq (by omega)
  ·have p4:=second (.inl (by omega))
   clear second out p3
   refine aX (ι:=Nat×Int) Tryz.checked.mixed rfl [1,2,6] (fun y=>[.c (.d (.i .i64 y.2)),.c (.ptr (0,0) 0),.c (.d (.i .i64 y.1))]) (fun y=>[.box (x.enc.map .d)]::S)
    (fun y=>y.1≤x.aK.length∧(-1≤y.2∧y.2≤1048576)∧lg y.2 (aJ.bY (x.aK.drop y.1))=lg l x.cnt) (fun y=>x.aK.length-y.1) (0,c) rfl ?_ ⟨Nat.zero_le _,by simp only;omega,p4⟩ ?_
   ·simp -implicitDefEqProofs (disch:=omega) only[go_sem]
   clear p1 p2 p4
   rintro⟨i,d⟩ ⟨p1,p2,p3⟩
   simp only at p1 p2 p3
   simp -implicitDefEqProofs (disch:=omega) only[go_sem]
   with_reducible refine aA (fun hb=> ?_) (fun hb=> ?_)<;>have h:=hb<;>(try simp only[wf_preprocess] at h)<;>simp -implicitDefEqProofs (disch:=omega) only[go_sem,hb]<;>(repeat(with_reducible refine And.intro ?_ ?_;focus first|omega|rfl|assumption|exact⟨_,rfl,rfl⟩|(simp;omega)|(simp;done)))
   ·have hi:i<x.aK.length:=by omega
    with_reducible refine aA (fun hb=> ?_) (fun hb=> ?_)<;>have h:=hb<;>(try simp only[wf_preprocess] at h)<;>simp -implicitDefEqProofs (disch:=omega) only[go_sem,hb]<;>(repeat(with_reducible refine And.intro ?_ ?_;focus first|omega|rfl|assumption|exact⟨_,rfl,rfl⟩|(simp;omega)|(simp;done)))
    ·have hs:=List.sizeOf_lt_of_mem (List.getElem_mem hi)
     have hs':=aJ.j3 x.aK[i]
     have hr:=IZ (l:=d) (c:=x.aK[i].fBody.cnt) (by omega)
     rw[aJ.jH hi,←AR] at p3
     (repeat(with_reducible refine And.intro ?_ ?_;focus first|omega|rfl|assumption|exact⟨_,rfl,rfl⟩|(simp;omega)|(simp;done)))
     refine ay (ih x.aK[i].fBody (by omega) (aJ.bounds (au.KY hi hsz)).2.2.2 d (by omega) (by omega)) ?_
     simp -implicitDefEqProofs (disch:=omega) only[go_sem]<;>(repeat(with_reducible refine And.intro ?_ ?_;focus first|omega|rfl|assumption|exact⟨_,rfl,rfl⟩|(simp;omega)|(simp;done)))
     exact bI (i+1,lg d x.aK[i].fBody.cnt) (by simp only;omega) rfl rfl ⟨by simp only;omega,by simp only;omega,p3⟩
    ·rw[EW (by omega)] at p3
     exact int_eq (by omega)
   ·have hi:i=x.aK.length:=by omega
    rw[hi,List.drop_length,aJ.bY,Cx p2.1] at p3
    exact int_eq (by omega)
end Go.Proofs.YtlmhknhlmicmeaaGreatDoor
namespace Go.Proofs.YtlmhknhlmicmeaaGreatDoor
open Go Go.Ab
set_option maxHeartbeats 8000000 in
theorem Pm:∀n:Nat,∀x:au,SizeOf.sizeOf x<n→x.sz≤4194304→aI Tryz.prog 204 [x.v] (.c (.d (.b (gK x)))):=by
 intro n
 induction n with
 |zero=>intro x h;omega
 |succ n ih=>
  intro x hn hsz S
  have hb0:=au.bounds hsz
  have gZ:=au.fq x
  have vw:=au.kJ x
  have he:=sV x
  have hv0:=Ku
  have hop:x.fName∈ops→validName x.fName=false:=M5
  refine(show(pW x→ ?T)→_ from fun tail=> ?main) ?tp
  case' main=>
   rcases HV x.aM with hk|hk|hk|hk|hk|hk|hk|hk|hk|hk|hk|hk|hk
   ·have h1:gK x=false:=by rw[he,aL (fun h=>by have:=h.1;omega)];rfl
    refine aF (rs:=[.tmp 2]) Tryz.checked.mixed Tryz.func204 Tryz.ntmps204 rfl rfl rfl rfl rfl ?_
    simp -implicitDefEqProofs (disch:=omega) only[go_sem]
    refine ay (Kg _) ?_
    simp -implicitDefEqProofs (disch:=omega) only[go_sem]
    refine ay (zM _ _ _) ?_
    simp -implicitDefEqProofs (disch:=omega) only[go_sem]
    with_reducible refine aA (fun hb=> ?_) (fun hb=> ?_)<;>have h:=hb<;>(try simp only[wf_preprocess] at h)<;>simp -implicitDefEqProofs (disch:=omega) only[go_sem,hb]<;>(repeat(with_reducible refine And.intro ?_ ?_;focus first|omega|rfl|assumption|exact⟨_,rfl,rfl⟩|(simp;omega)|(simp;done)))
    ·rw[h1]
    ·omega
   all_goals
    have hf0:¬pW x→V.c (.d (.b false))=V.c (.d (.b (gK x))):=fun h=>aD (by rw[he,aL h];rfl)
    refine aF (rs:=[.tmp 2]) Tryz.checked.mixed Tryz.func204 Tryz.ntmps204 rfl rfl rfl rfl rfl ?_
    simp -implicitDefEqProofs (disch:=omega) only[go_sem,hk]
    refine ay (Kg _) ?_
    simp -implicitDefEqProofs (disch:=omega) only[go_sem,hk,SQ,SS,SV,SX,SY,S9,or_false,or_true,true_or,false_or]
    refine ay (zM _ _ _) ?_
    simp -implicitDefEqProofs (disch:=omega) only[go_sem,hk]
    repeat' (first
     |with_reducible refine aA (fun hb=> ?_) (fun hb=> ?_)<;>have h:=hb<;>(try simp only[wf_preprocess] at h)<;>simp -implicitDefEqProofs (disch:=omega) only[go_sem,hb,hk]<;>(repeat(with_reducible refine And.intro ?_ ?_;focus first|omega|rfl|assumption|exact⟨_,rfl,rfl⟩|(simp;omega)|(simp;done)))
     |((with_reducible show kP _ _ 152 _ _ _ _);refine ay (jA x.fName (by omega)) ?_;simp -implicitDefEqProofs (disch:=omega) only[go_sem,hk])
     |((with_reducible show kP _ _ 152 _ _ _ _);refine ay (jA x.bB (by omega)) ?_;simp -implicitDefEqProofs (disch:=omega) only[go_sem,hk])
     |((with_reducible show kP _ _ 279 _ _ _ _);refine ay (Tc x.fName) ?_;simp -implicitDefEqProofs (disch:=omega) only[go_sem,hk])
     |((with_reducible show kP _ _ 254 _ _ _ _);refine ay (Ta x.fType) ?_;simp -implicitDefEqProofs (disch:=omega) only[go_sem,hk])
     |((with_reducible show kP _ _ 280 _ _ _ _);refine ay (yg x.fType (by omega)) ?_;simp -implicitDefEqProofs (disch:=omega) only[go_sem,hk])
     |((with_reducible show kP _ _ 245 _ _ _ _);refine ay (zM x.fN _ _) ?_;simp -implicitDefEqProofs (disch:=omega) only[go_sem,hk])
     |(refine hf0 fun hF=> ?_;simp only[pW,hk,or_false,or_true,true_or,false_or,and_true,true_and,if_true,if_false,↓reduceIte,Int.reduceEq,Int.reduceLT,Int.reduceLE] at hF;grind [iH,qB,bC,aL]))
   all_goals
    have hF:pW x:=by simp only[pW,hk,or_false,or_true,true_or,false_or,and_true,true_and,if_true,if_false,↓reduceIte,Int.reduceEq,Int.reduceLT,Int.reduceLE];grind [iH,qB,bC,aL]
    refine AU (st':=[.box (x.enc.map .d)]::S) [1,9] [.c (.ptr (0,0) 0),.c (.d (.i .i64 0))] rfl (by simp -implicitDefEqProofs (disch:=omega) only[go_sem,hk]) ?_
    exact tail hF
  intro hF
  rw[bC hF,Bool.true_and] at he
  clear hF hop hv0
  refine aX (ι:=Nat) Tryz.checked.mixed rfl [1,9] (fun i=>[.c (.ptr (0,0) 0),.c (.d (.i .i64 i))]) (fun _=>[.box (x.enc.map .d)]::S)
   (fun i=>i≤x.fArgs.length∧jd (x.fArgs.drop i)=jd x.fArgs) (fun i=>x.fArgs.length-i) 0 rfl ?_ ⟨Nat.zero_le _,rfl⟩ ?_
  ·simp -implicitDefEqProofs (disch:=omega) only[go_sem]
  rintro i ⟨p1,p2⟩
  simp -implicitDefEqProofs (disch:=omega) only[go_sem]
  with_reducible refine aA (fun hb=> ?_) (fun hb=> ?_)<;>have h:=hb<;>(try simp only[wf_preprocess] at h)<;>simp -implicitDefEqProofs (disch:=omega) only[go_sem,hb]<;>(repeat(with_reducible refine And.intro ?_ ?_;focus first|omega|rfl|assumption|exact⟨_,rfl,rfl⟩|(simp;omega)|(simp;done)))
  ·have hi:i<x.fArgs.length:=by omega
   have hs:=List.sizeOf_lt_of_mem (List.getElem_mem hi)
   rw[M4 hi] at p2
   (repeat(with_reducible refine And.intro ?_ ?_;focus first|omega|rfl|assumption|exact⟨_,rfl,rfl⟩|(simp;omega)|(simp;done)))
   refine ay (ih x.fArgs[i] (by omega) (au.arg_b hi hsz)) ?_
   simp -implicitDefEqProofs (disch:=omega) only[go_sem]<;>(repeat(with_reducible refine And.intro ?_ ?_;focus first|omega|rfl|assumption|exact⟨_,rfl,rfl⟩|(simp;omega)|(simp;done)))
   with_reducible refine aA (fun hb=> ?_) (fun hb=> ?_)<;>have h:=hb<;>(try simp only[wf_preprocess] at h)<;>simp -implicitDefEqProofs (disch:=omega) only[go_sem,hb]<;>(repeat(with_reducible refine And.intro ?_ ?_;focus first|omega|rfl|assumption|exact⟨_,rfl,rfl⟩|(simp;omega)|(simp;done)))
   ·exact aD (by rw[he,←p2,h];rfl)
   ·exact bI (i+1) (by omega) rfl rfl ⟨by omega,by rw[←p2,h];rfl⟩
  rw[List.drop_of_length_le (by omega)] at p2
  have q:jd x.fArgs=true:=p2.symm
  clear p2 p1
  refine aX (ι:=Nat) Tryz.checked.mixed rfl [1,10] (fun i=>[.c (.ptr (0,0) 0),.c (.d (.i .i64 i))]) (fun _=>[.box (x.enc.map .d)]::S)
   (fun i=>i≤x.aK.length∧kZ (x.aK.drop i)=kZ x.aK) (fun i=>x.aK.length-i) 0 rfl ?_ ⟨Nat.zero_le _,rfl⟩ ?_
  ·simp -implicitDefEqProofs (disch:=omega) only[go_sem]
  rintro i ⟨p1,p2⟩
  simp -implicitDefEqProofs (disch:=omega) only[go_sem]
  with_reducible refine aA (fun hb=> ?_) (fun hb=> ?_)<;>have h:=hb<;>(try simp only[wf_preprocess] at h)<;>simp -implicitDefEqProofs (disch:=omega) only[go_sem,hb]<;>(repeat(with_reducible refine And.intro ?_ ?_;focus first|omega|rfl|assumption|exact⟨_,rfl,rfl⟩|(simp;omega)|(simp;done)))
  ·have hi:i<x.aK.length:=by omega
   have hs:=List.sizeOf_lt_of_mem (List.getElem_mem hi)
   have hs':=aJ.j3 x.aK[i]
   have hab:=aJ.bounds (au.KY hi hsz)
   rw[OW hi] at p2
   have no:qU x.aK[i]=false→V.c (.d (.b false))=V.c (.d (.b (gK x))):=fun h=>aD (by rw[he,←p2,h];simp)
   (repeat(with_reducible refine And.intro ?_ ?_;focus first|omega|rfl|assumption|exact⟨_,rfl,rfl⟩|(simp;omega)|(simp;done)))
   refine ay (jA x.aK[i].bP (by omega)) ?_
   simp -implicitDefEqProofs (disch:=omega) only[go_sem]<;>(repeat(with_reducible refine And.intro ?_ ?_;focus first|omega|rfl|assumption|exact⟨_,rfl,rfl⟩|(simp;omega)|(simp;done)))
   with_reducible refine aA (fun hb=> ?_) (fun hb=> ?_)<;>have h:=hb<;>(try simp only[wf_preprocess] at h)<;>simp -implicitDefEqProofs (disch:=omega) only[go_sem,hb]<;>(repeat(with_reducible refine And.intro ?_ ?_;focus first|omega|rfl|assumption|exact⟨_,rfl,rfl⟩|(simp;omega)|(simp;done)))
   ·exact no (by rw[nJ,h];rfl)
   have k1:=h
   (repeat(with_reducible refine And.intro ?_ ?_;focus first|omega|rfl|assumption|exact⟨_,rfl,rfl⟩|(simp;omega)|(simp;done)))
   refine ay (GN x.aK[i].aN (by omega) hab.2.2.1) ?_
   simp -implicitDefEqProofs (disch:=omega) only[go_sem]<;>(repeat(with_reducible refine And.intro ?_ ?_;focus first|omega|rfl|assumption|exact⟨_,rfl,rfl⟩|(simp;omega)|(simp;done)))
   with_reducible refine aA (fun hb=> ?_) (fun hb=> ?_)<;>have h:=hb<;>(try simp only[wf_preprocess] at h)<;>simp -implicitDefEqProofs (disch:=omega) only[go_sem,hb]<;>(repeat(with_reducible refine And.intro ?_ ?_;focus first|omega|rfl|assumption|exact⟨_,rfl,rfl⟩|(simp;omega)|(simp;done)))
   ·exact no (by rw[nJ];unfold iR;rw[h];simp)
   have k2:=h
   (repeat(with_reducible refine And.intro ?_ ?_;focus first|omega|rfl|assumption|exact⟨_,rfl,rfl⟩|(simp;omega)|(simp;done)))
   refine ay (yS x.aK[i].aN (by omega)) ?_
   simp -implicitDefEqProofs (disch:=omega) only[go_sem]<;>(repeat(with_reducible refine And.intro ?_ ?_;focus first|omega|rfl|assumption|exact⟨_,rfl,rfl⟩|(simp;omega)|(simp;done)))
   with_reducible refine aA (fun hb=> ?_) (fun hb=> ?_)<;>have h:=hb<;>(try simp only[wf_preprocess] at h)<;>simp -implicitDefEqProofs (disch:=omega) only[go_sem,hb]<;>(repeat(with_reducible refine And.intro ?_ ?_;focus first|omega|rfl|assumption|exact⟨_,rfl,rfl⟩|(simp;omega)|(simp;done)))
   ·exact no (by rw[nJ];unfold iR;rw[aL h];simp)
   have k3:=h
   (repeat(with_reducible refine And.intro ?_ ?_;focus first|omega|rfl|assumption|exact⟨_,rfl,rfl⟩|(simp;omega)|(simp;done)))
   refine ay (ih x.aK[i].fBody (by omega) hab.2.2.2) ?_
   simp -implicitDefEqProofs (disch:=omega) only[go_sem]<;>(repeat(with_reducible refine And.intro ?_ ?_;focus first|omega|rfl|assumption|exact⟨_,rfl,rfl⟩|(simp;omega)|(simp;done)))
   with_reducible refine aA (fun hb=> ?_) (fun hb=> ?_)<;>have h:=hb<;>(try simp only[wf_preprocess] at h)<;>simp -implicitDefEqProofs (disch:=omega) only[go_sem,hb]<;>(repeat(with_reducible refine And.intro ?_ ?_;focus first|omega|rfl|assumption|exact⟨_,rfl,rfl⟩|(simp;omega)|(simp;done)))
   ·exact no (by rw[nJ,h];simp)
   ·exact dA 1 (by decide) (i+1) (by omega) rfl rfl rfl rfl ⟨by omega,by rw[←p2,nJ,k1,h];unfold iR;rw[k2,bC k3];rfl⟩
  ·rw[List.drop_of_length_le (by omega)] at p2
   exact aD (by rw[he,q,←p2];rfl)
theorem Fj(x:au)(hsz:x.sz≤4194304):aI Tryz.prog 106 [x.v] (.c (.d (.b (nA x)))):=fun S=>by
 have hs:=Yg (l:=300) (c:=x.cnt) (by omega)
 refine aF (rs:=[.tmp 2]) Tryz.checked.mixed Tryz.func106 Tryz.ntmps106 rfl rfl rfl rfl rfl ?_
 simp -implicitDefEqProofs (disch:=omega) only[go_sem]
 refine ay (EF _ x (Nat.lt_succ_self _) hsz 300 (by omega) (by omega)) ?_
 simp -implicitDefEqProofs (disch:=omega) only[go_sem]<;>(repeat(with_reducible refine And.intro ?_ ?_;focus first|omega|rfl|assumption|exact⟨_,rfl,rfl⟩|(simp;omega)|(simp;done)))
 rw[hs]
 with_reducible refine aA (fun hb=> ?_) (fun hb=> ?_)<;>have h:=hb<;>(try simp only[wf_preprocess] at h)<;>simp -implicitDefEqProofs (disch:=omega) only[go_sem,hb]<;>(repeat(with_reducible refine And.intro ?_ ?_;focus first|omega|rfl|assumption|exact⟨_,rfl,rfl⟩|(simp;omega)|(simp;done)))
 ·refine ay (Pm _ x (Nat.lt_succ_self _) hsz) ?_
  simp -implicitDefEqProofs (disch:=omega) only[go_sem]<;>(repeat(with_reducible refine And.intro ?_ ?_;focus first|omega|rfl|assumption|exact⟨_,rfl,rfl⟩|(simp;omega)|(simp;done)))
  exact aD (by unfold nA;rw[bC (by omega)];rfl)
 ·exact aD (by unfold nA;rw[aL (by omega)];rfl)
end Go.Proofs.YtlmhknhlmicmeaaGreatDoor
namespace Go.Ab
theorem Nz{x:au}(h:nA x=true):gK x=true:=by rw[nA,Bool.and_eq_true] at h;exact h.2
end Go.Ab
namespace Go.Proofs.YtlmhknhlmicmeaaGreatDoor
open Go Go.Ab
end Go.Proofs.YtlmhknhlmicmeaaGreatDoor
namespace Go.Ab
abbrev au.cv (x:au):List C:=[.d (.i .i64 x.aM),.d (.s x.bB),.d (.s x.fName),.d (.i .i64 x.fN),.d (.i .i64 x.fType.aM),.d (.s x.fType.fName),.d (.sl (x.fType.fArgs.map aj.enc)),.d (.sl (x.fArgs.map au.enc)),.d (.sl (x.aK.map aJ.enc))]
abbrev au.cl (x:au) (n:Nat):List C:=[.d (.i .i64 x.aM),.d (.s x.bB),.d (.s x.fName),.d (.i .i64 x.fN),.d (.i .i64 x.fType.aM),.d (.s x.fType.fName),.d (.ol n (lt x.fType.fArgs (n+1))),
 .d (.ol (n+(fU x.fType.fArgs+1)) (lE x.fArgs (n+(fU x.fType.fArgs+1)+1))),.d (.ol (n+(fU x.fType.fArgs+1)+(lJ x.fArgs+1)) (lM x.aK (n+(fU x.fType.fArgs+1)+(lJ x.fArgs+1)+1)))]
abbrev agB:List C:=[.d (.i .i64 0),.d (.s []),.d (.s []),.d (.i .i64 0),.d (.i .i64 0),.d (.s []),.aO [],.aO [],.aO []]
end Go.Ab
namespace Go.Proofs.YtlmhknhlmicmeaaGreatDoor
open Go Go.Ab
end Go.Proofs.YtlmhknhlmicmeaaGreatDoor
namespace Go.Ab
noncomputable def wH(k:Int)(n:List UInt8)(bound out:List (List UInt8)):List (List UInt8):=if k=3∧n∉bound∧n∉out then out++[n] else out
mutual
noncomputable def iF:au→List (List UInt8)→List (List UInt8)→List (List UInt8)
 | .mk k _ n _ _ a b,bound,out=>qV b bound (nP a k n 0 bound (wH k n bound out))
noncomputable def nP:List au→Int→List UInt8→Nat→List (List UInt8)→List (List UInt8)→List (List UInt8)
 |[],_,_,_,_,out=>out
 |x::xs,k,n,i,bound,out=>nP xs k n (i+1) bound (iF x (if k=8∧i=1 then bound++[n] else bound) out)
noncomputable def qV:List aJ→List (List UInt8)→List (List UInt8)→List (List UInt8)
 |[],_,out=>out
 |x::xs,bound,out=>qV xs bound (Bh x bound out)
noncomputable def Bh:aJ→List (List UInt8)→List (List UInt8)→List (List UInt8)
 | .mk _ v b,bound,out=>iF b (bound++v) out
end
theorem NA(x:au)(bound out:List (List UInt8)):iF x bound out=qV x.aK bound (nP x.fArgs x.aM x.fName 0 bound (wH x.aM x.fName bound out)):=by cases x;rw[iF];rfl
theorem NC(x:aJ)(bound out:List (List UInt8)):Bh x bound out=iF x.fBody (bound++x.aN) out:=by cases x;rw[Bh];rfl
theorem HZ{xs:List au}{k:Int}{n:List UInt8}{i:Nat}{bound out:List (List UInt8)}(hi:i<xs.length):nP (xs.drop i) k n i bound out=nP (xs.drop (i+1)) k n (i+1) bound (iF xs[i] (if k=8∧i=1 then bound++[n] else bound) out):=by
 rw[List.drop_eq_getElem_cons hi,nP]
theorem H6{xs:List aJ}{i:Nat}{bound out:List (List UInt8)}(hi:i<xs.length):qV (xs.drop i) bound out=qV (xs.drop (i+1)) bound (Bh xs[i] bound out):=by
 rw[List.drop_eq_getElem_cons hi,qV]
theorem Fp(k:Int)(n:List UInt8)(bound out:List (List UInt8)):(wH k n bound out).length≤out.length+1:=by
 unfold wH;split<;>simp
mutual
theorem qN:∀(x:au) (bound out:List (List UInt8)),(iF x bound out).length≤out.length+x.cnt
 | .mk k t n m ty a b,bound,out=>by
   have h1:=Fp k n bound out
   have h2:=Kh a k n 0 bound (wH k n bound out)
   have h3:=Ki b bound (nP a k n 0 bound (wH k n bound out))
   rw[iF,au.cnt];omega
theorem Kh:∀(xs:List au) (k:Int) (n:List UInt8) (i:Nat) (bound out:List (List UInt8)),(nP xs k n i bound out).length≤out.length+au.bY xs
 |[],k,n,i,bound,out=>by rw[nP,au.bY];omega
 |x::xs,k,n,i,bound,out=>by
  have h1:=qN x (if k=8∧i=1 then bound++[n] else bound) out
  have h2:=Kh xs k n (i+1) bound (iF x (if k=8∧i=1 then bound++[n] else bound) out)
  rw[nP,au.bY];omega
theorem Ki:∀(xs:List aJ) (bound out:List (List UInt8)),(qV xs bound out).length≤out.length+aJ.bY xs
 |[],bound,out=>by rw[qV,aJ.bY];omega
 |x::xs,bound,out=>by
  have h1:=VG x bound out
  have h2:=Ki xs bound (Bh x bound out)
  rw[qV,aJ.bY];omega
theorem VG:∀(x:aJ) (bound out:List (List UInt8)),(Bh x bound out).length≤out.length+x.cnt
 | .mk c v b,bound,out=>by
   have h1:=qN b (bound++v) out
   rw[Bh,aJ.cnt];omega
end
theorem au.qK{x:au}{i:Nat}(hi:i<x.fArgs.length):x.fArgs[i].sz+x.fArgs.length≤x.sz:=by
 have hx:x.fArgs[i].sz≤bF (x.fArgs.map au.enc):=dP (List.mem_map_of_mem (List.getElem_mem hi))
 have:=au.yh x
 omega
theorem au.VH{x:au}{i:Nat}(hi:i<x.aK.length):x.aK[i].sz+x.aK.length≤x.sz:=by
 have hx:x.aK[i].sz≤bF (x.aK.map aJ.enc):=dP (List.mem_map_of_mem (List.getElem_mem hi))
 have:=au.yh x
 omega
theorem aJ.Qk(x:aJ):x.aN.length+x.fBody.sz≤x.sz:=by
 simp only[aJ.sz,aJ.aH,au.sz,bO,bN,D.sz,List.length_map]
 omega
theorem DR(xs:List (List UInt8))(s:List UInt8):xs.map encS++[[D.s s]]=(xs++[s]).map encS:=by simp[encS]
end Go.Ab
namespace Go.Proofs.YtlmhknhlmicmeaaGreatDoor
open Go Go.Ab
set_option maxHeartbeats 2000000 in
theorem Dc:∀N:Nat,∀x:au,SizeOf.sizeOf x<N→x.sz≤4194304→∀(bound out:List (List UInt8)) (l j:Nat) (S:Store),aU S (l,j)=some (.tok 1 (out.map encS))→out.length+x.cnt≤1073741824→bound.length+x.sz≤1073741824→
 bD Tryz.prog 338 [.c (.bL (l,j) (out.map encS)),x.v,.c (.d (.sl (bound.map encS)))] S (fun r S'=>r=.c (.bL (l,j) ((iF x bound out).map encS))∧S'=aY S (l,j) (.tok 1 ((iF x bound out).map encS)))
 |0=>fun x h=>by omega
 |N+1=>by
  have ih:=Dc N
  intro x hn hsz bound out l j S hk hc hbd
  have hb0:=au.yh x
  have gZ:=au.fq x
  have vw:=au.kJ x
  have hcn:=au.lS x
  have GI:∀y:Ab.Obj,aU (aY S (l,j) y) (l,j)=some y:=fun y=>bZ _ _ _ _ hk
  have hS0:aY S (l,j) (.tok 1 (out.map encS))=S:=l7 _ _ hk
  have fin:=NA x bound out
  have hal:=Fp x.aM x.fName bound out
  obtain⟨o1,ho1⟩:∃o1,wH x.aM x.fName bound out=o1:=⟨_,rfl⟩
  rw[ho1] at fin hal
  refine(show Hold ?T→_ from fun tail=> ?main) ?tp
  case' main=>
   refine aF (rs:=[.tmp 6]) Tryz.checked.mixed Tryz.func338 Tryz.ntmps338 rfl rfl rfl rfl rfl ?_
   simp -implicitDefEqProofs (disch:=omega) only[go_sem,hk]
   repeat' (first
    |(with_reducible refine aA (fun hb=> ?_) (fun hb=> ?_)<;>have h:=hb<;>(try simp only[wf_preprocess] at h)<;>simp -implicitDefEqProofs (disch:=omega) only[go_sem,hb,hk]<;>(repeat(with_reducible refine And.intro ?_ ?_;focus first|omega|rfl|assumption|exact⟨_,rfl,rfl⟩|(simp;omega)|(simp;done))))
    |(refine ay (mK bound x.fName (by omega)) ?_;simp -implicitDefEqProofs (disch:=omega) only[go_sem,hk];(repeat(with_reducible refine And.intro ?_ ?_;focus first|omega|rfl|assumption|exact⟨_,rfl,rfl⟩|(simp;omega)|(simp;done))))
    |(refine ay (mK out x.fName (by omega)) ?_;simp -implicitDefEqProofs (disch:=omega) only[go_sem,hk];(repeat(with_reducible refine And.intro ?_ ?_;focus first|omega|rfl|assumption|exact⟨_,rfl,rfl⟩|(simp;omega)|(simp;done)))))
   all_goals first
    |(have ha:wH x.aM x.fName bound out=out++[x.fName]:=if_pos ⟨by assumption,by assumption,by assumption⟩)
    |(have ha:wH x.aM x.fName bound out=out:=if_neg (fun y=>by have:=y.1;have:=y.2.1;have:=y.2.2;contradiction))
   all_goals
    refine AU (st':=[.box (x.enc.map .d)]::aY S (l,j) (.tok 1 (o1.map encS))) [0,2,4,34,35,36] [.c (.bL (1+l,j) (o1.map encS)),.c (.d (.sl (bound.map encS))),.c (.ptr (0,0) 0),.c (.d (.sl (x.fArgs.map au.enc))),.c (.d (.i .i64 x.fArgs.length)),.c (.d (.i .i64 0))] ?_ ?_ ?_
    ·first|(rw[←ho1,ha];rfl)|(rw[←ho1,ha,←DR];rfl)
    ·first|(rw[←ho1,ha,hS0];simp -implicitDefEqProofs (disch:=omega) only[go_sem];done)|(rw[←ho1,ha,←DR];simp -implicitDefEqProofs (disch:=omega) only[go_sem];done)
    ·exact tail.out
  refine⟨?_⟩
  clear ho1
  refine aX (ι:=Nat×List (List UInt8)) Tryz.checked.mixed rfl [0,2,4,34,35,36] (fun y=>[.c (.bL (1+l,j) (y.2.map encS)),.c (.d (.sl (bound.map encS))),.c (.ptr (0,0) 0),.c (.d (.sl (x.fArgs.map au.enc))),.c (.d (.i .i64 x.fArgs.length)),.c (.d (.i .i64 y.1))]) (fun y=>[.box (x.enc.map .d)]::aY S (l,j) (.tok 1 (y.2.map encS)))
   (fun y=>y.1≤x.fArgs.length∧y.2.length+au.bY (x.fArgs.drop y.1)+aJ.bY x.aK≤1073741824∧nP (x.fArgs.drop y.1) x.aM x.fName y.1 bound y.2=nP x.fArgs x.aM x.fName 0 bound o1) (fun y=>x.fArgs.length-y.1) (0,o1) rfl rfl ⟨Nat.zero_le _,by simp only[List.drop_zero];omega,rfl⟩ ?_
  rintro⟨i,o⟩ ⟨p1,p2,p3⟩
  have refs:∀{a b},jF 1 (gQ [0,2,4,34,35,36] [.c (.bL (1+l,j) a),.c (.d (.sl (bound.map encS))),.c (.ptr (0,0) 0),.c (.d (.sl (x.fArgs.map au.enc))),.c (.d (.i .i64 x.fArgs.length)),.c (.d (.i .i64 b))])=true:=fun {a b}=>by simp[jF,gQ,V.refs,C.refs,kW];omega
  simp only at p1 p2 p3
  simp -implicitDefEqProofs (disch:=omega) only[go_sem]
  with_reducible refine aA (fun hb=> ?_) (fun hb=> ?_)<;>have h:=hb<;>(try simp only[wf_preprocess] at h)<;>simp -implicitDefEqProofs (disch:=omega) only[go_sem,hb]<;>(repeat(with_reducible refine And.intro ?_ ?_;focus first|omega|rfl|assumption|exact⟨_,rfl,rfl⟩|(simp;omega)|(simp;done)))
  ·have hi:i<x.fArgs.length:=by omega
   have hs:=List.sizeOf_lt_of_mem (List.getElem_mem hi)
   have hz:=au.qK hi
   rw[HZ hi] at p3
   rw[au.jH hi] at p2
   have hlo:=qN x.fArgs[i] (if x.aM=8∧i=1 then bound++[x.fName] else bound) o
   (repeat(with_reducible refine And.intro ?_ ?_;focus first|omega|rfl|assumption|exact⟨_,rfl,rfl⟩|(simp;omega)|(simp;done)))
   have two:x.fArgs[i].sz+(bound.length+1)≤1073741824:=by omega
   repeat' (first|with_reducible refine aA (fun hb=> ?_) (fun hb=> ?_)<;>have h:=hb<;>(try simp only[wf_preprocess] at h)<;>simp -implicitDefEqProofs (disch:=omega) only[go_sem,hb]<;>(repeat(with_reducible refine And.intro ?_ ?_;focus first|omega|rfl|assumption|exact⟨_,rfl,rfl⟩|(simp;omega)|(simp;done))))
   ·
    have e1:x.aM=8∧i=1:=⟨by omega,by omega⟩
    rw[if_pos e1] at p3 hlo
    refine T9 rfl DS.push (VD bound (by omega) _ _) ?_
    simp -implicitDefEqProofs (disch:=omega) only[go_sem]
    (repeat(with_reducible refine And.intro ?_ ?_;focus first|omega|rfl|assumption|exact⟨_,rfl,rfl⟩|(simp;omega)|(simp;done)))
    rw[DR]
    refine oW [true,true,false] rfl (ih x.fArgs[i] (by omega) (by omega) (bound++[x.fName]) o (1+l) j _ (by simp -implicitDefEqProofs (disch:=omega) only[go_sem];exact GI _) (by omega) (by simp only[List.length_append,List.length_cons,List.length_nil];omega)) ?_
    simp -implicitDefEqProofs (disch:=omega) only[go_sem,bK]
    exact dA 1 (by decide) (i+1,iF x.fArgs[i] (bound++[x.fName]) o) (by simp only;omega) rfl rfl refs rfl ⟨by simp only;omega,by simp only;omega,p3⟩
   all_goals
    have e1:¬(x.aM=8∧i=1):=fun h=>by omega
    rw[if_neg e1] at p3 hlo
    refine bq rfl (ih x.fArgs[i] (by omega) (by omega) bound o (1+l) j _ (by simp -implicitDefEqProofs (disch:=omega) only[go_sem];exact GI _) (by omega) (by omega)) ?_
    simp -implicitDefEqProofs (disch:=omega) only[go_sem,bK]
    exact dA 1 (by decide) (i+1,iF x.fArgs[i] bound o) (by simp only;omega) rfl rfl refs rfl ⟨by simp only;omega,by simp only;omega,p3⟩
  have hi:i=x.fArgs.length:=by omega
  rw[hi,List.drop_length] at p2 p3
  rw[au.bY] at p2
  rw[nP] at p3
  rw[←p3] at fin
  clear p3 refs
  refine aX (ι:=Nat×List (List UInt8)) Tryz.checked.mixed rfl [0,2,63,64,65] (fun y=>[.c (.bL (1+l,j) (y.2.map encS)),.c (.d (.sl (bound.map encS))),.c (.d (.sl (x.aK.map aJ.enc))),.c (.d (.i .i64 x.aK.length)),.c (.d (.i .i64 y.1))]) (fun y=>[.box (x.enc.map .d)]::aY S (l,j) (.tok 1 (y.2.map encS)))
   (fun y=>y.1≤x.aK.length∧y.2.length+aJ.bY (x.aK.drop y.1)≤1073741824∧qV (x.aK.drop y.1) bound y.2=iF x bound out) (fun y=>x.aK.length-y.1) (0,o) rfl ?_ ⟨Nat.zero_le _,by simp only[List.drop_zero];omega,fin.symm⟩ ?_
  ·simp -implicitDefEqProofs (disch:=omega) only[go_sem]
  clear p1 p2 fin hal
  rintro⟨i,o⟩ ⟨p1,p2,p3⟩
  have refs:∀a b,jF 1 (gQ [0,2,63,64,65] [.c (.bL (1+l,j) a),.c (.d (.sl (bound.map encS))),.c (.d (.sl (x.aK.map aJ.enc))),.c (.d (.i .i64 x.aK.length)),.c (.d (.i .i64 b))])=true:=fun a b=>by simp[jF,gQ,V.refs,C.refs,kW];omega
  simp only at p1 p2 p3
  simp -implicitDefEqProofs (disch:=omega) only[go_sem]
  with_reducible refine aA (fun hb=> ?_) (fun hb=> ?_)<;>have h:=hb<;>(try simp only[wf_preprocess] at h)<;>simp -implicitDefEqProofs (disch:=omega) only[go_sem,hb]<;>(repeat(with_reducible refine And.intro ?_ ?_;focus first|omega|rfl|assumption|exact⟨_,rfl,rfl⟩|(simp;omega)|(simp;done)))
  ·have hi:i<x.aK.length:=by omega
   have hs:=List.sizeOf_lt_of_mem (List.getElem_mem hi)
   have hs':=aJ.j3 x.aK[i]
   have hz:=au.VH hi
   have hz':=aJ.Qk x.aK[i]
   rw[H6 hi,NC] at p3
   rw[aJ.jH hi] at p2
   have hlo:=qN x.aK[i].fBody (bound++x.aK[i].aN) o
   have hcc:=SI [bound,x.aK[i].aN] (by simp) (by simp only[List.flatten_cons,List.flatten_nil,List.append_nil,List.length_append];omega)
   simp only[List.map_cons,List.map_nil,List.flatten_cons,List.flatten_nil,List.append_nil] at hcc
   (repeat(with_reducible refine And.intro ?_ ?_;focus first|omega|rfl|assumption|exact⟨_,rfl,rfl⟩|(simp;omega)|(simp;done)))
   refine ay hcc ?_
   simp -implicitDefEqProofs (disch:=omega) only[go_sem]
   refine bq rfl (ih x.aK[i].fBody (by omega) (by omega) (bound++x.aK[i].aN) o (1+l) j _ (by simp -implicitDefEqProofs (disch:=omega) only[go_sem];exact GI _) (by omega) (by simp only[List.length_append];omega)) ?_
   simp -implicitDefEqProofs (disch:=omega) only[go_sem,bK]
   exact dA 1 (by decide) (i+1,iF x.aK[i].fBody (bound++x.aK[i].aN) o) (by simp only;omega) rfl rfl (refs _ _) rfl ⟨by simp only;omega,by simp only;omega,p3⟩
  ·have hi:i=x.aK.length:=by omega
   rw[hi,List.drop_length,qV] at p3
   rw[←p3]
   exact⟨rfl,rfl⟩
theorem H7(x:au)(hsz:x.sz≤4194304):aI Tryz.prog 296 [x.v] (.c (.d (.sl ((iF x [] []).map encS)))):=fun S=>by
 have hc:=au.jR x
 have h0:∀S,bD Tryz.prog 338 [.c (.aO []),x.v,.c (.d (.sl []))] S (fun r S'=>r=.c (.d (.sl ((iF x [] []).map encS)))∧S'=S):=fun S=>by
  refine bD.XE 0 (es:=[]) (aQ:=1) rfl (by simp) (Dc _ x (Nat.lt_succ_self _) hsz [] [] 0 0 ([.tok 1 []]::S) rfl (by simp;omega) (by simp;omega)) ?_
  rintro r fr S' ⟨rfl,h2⟩
  injection h2 with h2 h3
  exact⟨_,rfl,rfl,h3⟩
 refine aF (rs:=[.tmp 2]) Tryz.checked.mixed Tryz.func296 Tryz.ntmps296 rfl rfl rfl rfl rfl ?_
 simp -implicitDefEqProofs (disch:=omega) only[go_sem]
 (repeat(with_reducible refine And.intro ?_ ?_;focus first|omega|rfl|assumption|exact⟨_,rfl,rfl⟩|(simp;omega)|(simp;done)))
 refine oW [true,true,false] rfl (h0 _) ?_
 simp -implicitDefEqProofs (disch:=omega) only[go_sem]
set_option maxHeartbeats 2000000 in
theorem Df:∀N:Nat,∀x:au,SizeOf.sizeOf x<N→x.sz≤4194304→∀(bound out:List (List UInt8)) (l j:Nat) (S:Store),aU S (l,j)=some (.tok 1 (out.map encS))→out.length+x.cnt≤1073741824→bound.length+x.sz≤1073741824→
 bD Tryz.prog 343 [x.v,.c (.d (.sl (bound.map encS))),.c (.bL (l,j) (out.map encS))] S (fun r S'=>r=.c (.bL (l,j) ((iF x bound out).map encS))∧S'=aY S (l,j) (.tok 1 ((iF x bound out).map encS)))
 |0=>fun x h=>by omega
 |N+1=>by
  have ih:=Df N
  intro x hn hsz bound out l j S hk hc hbd
  have hb0:=au.yh x
  have gZ:=au.fq x
  have vw:=au.kJ x
  have hcn:=au.lS x
  have GI:∀y:Ab.Obj,aU (aY S (l,j) y) (l,j)=some y:=fun y=>bZ _ _ _ _ hk
  have hS0:aY S (l,j) (.tok 1 (out.map encS))=S:=l7 _ _ hk
  have fin:=NA x bound out
  have hal:=Fp x.aM x.fName bound out
  obtain⟨o1,ho1⟩:∃o1,wH x.aM x.fName bound out=o1:=⟨_,rfl⟩
  rw[ho1] at fin hal
  refine(show Hold ?T→_ from fun tail=> ?main) ?tp
  case' main=>
   refine aF (rs:=[.tmp 6]) Tryz.checked.mixed Tryz.func343 Tryz.ntmps343 rfl rfl rfl rfl rfl ?_
   simp -implicitDefEqProofs (disch:=omega) only[go_sem,hk]
   repeat' (first
    |(with_reducible refine aA (fun hb=> ?_) (fun hb=> ?_)<;>have h:=hb<;>(try simp only[wf_preprocess] at h)<;>simp -implicitDefEqProofs (disch:=omega) only[go_sem,hb,hk]<;>(repeat(with_reducible refine And.intro ?_ ?_;focus first|omega|rfl|assumption|exact⟨_,rfl,rfl⟩|(simp;omega)|(simp;done))))
    |(refine ay (nI bound x.fName (by omega)) ?_;simp -implicitDefEqProofs (disch:=omega) only[go_sem,hk];(repeat(with_reducible refine And.intro ?_ ?_;focus first|omega|rfl|assumption|exact⟨_,rfl,rfl⟩|(simp;omega)|(simp;done))))
    |(refine ay (nI out x.fName (by omega)) ?_;simp -implicitDefEqProofs (disch:=omega) only[go_sem,hk];(repeat(with_reducible refine And.intro ?_ ?_;focus first|omega|rfl|assumption|exact⟨_,rfl,rfl⟩|(simp;omega)|(simp;done)))))
   all_goals first
    |(have ha:wH x.aM x.fName bound out=out++[x.fName]:=if_pos ⟨by assumption,by assumption,by assumption⟩)
    |(have ha:wH x.aM x.fName bound out=out:=if_neg (fun y=>by have:=y.1;have:=y.2.1;have:=y.2.2;contradiction))
   all_goals
    refine AU (st':=[.box (x.enc.map .d)]::aY S (l,j) (.tok 1 (o1.map encS))) [1,2,3,7] [.c (.d (.sl (bound.map encS))),.c (.bL (1+l,j) (o1.map encS)),.c (.ptr (0,0) 0),.c (.d (.i .i64 0))] ?_ ?_ ?_
    ·first|(rw[←ho1,ha];rfl)|(rw[←ho1,ha,←DR];rfl)
    ·first|(rw[←ho1,ha,hS0];simp -implicitDefEqProofs (disch:=omega) only[go_sem];done)|(rw[←ho1,ha,←DR];simp -implicitDefEqProofs (disch:=omega) only[go_sem];done)
    ·exact tail.out
  refine⟨?_⟩
  clear ho1
  refine aX (ι:=Nat×List (List UInt8)) Tryz.checked.mixed rfl [1,2,3,7] (fun y=>[.c (.d (.sl (bound.map encS))),.c (.bL (1+l,j) (y.2.map encS)),.c (.ptr (0,0) 0),.c (.d (.i .i64 y.1))]) (fun y=>[.box (x.enc.map .d)]::aY S (l,j) (.tok 1 (y.2.map encS)))
   (fun y=>y.1≤x.fArgs.length∧y.2.length+au.bY (x.fArgs.drop y.1)+aJ.bY x.aK≤1073741824∧nP (x.fArgs.drop y.1) x.aM x.fName y.1 bound y.2=nP x.fArgs x.aM x.fName 0 bound o1) (fun y=>x.fArgs.length-y.1) (0,o1) rfl rfl ⟨Nat.zero_le _,by simp only[List.drop_zero];omega,rfl⟩ ?_
  rintro⟨i,o⟩ ⟨p1,p2,p3⟩
  have refs:∀{a b},jF 1 (gQ [1,2,3,7] [.c (.d (.sl (bound.map encS))),.c (.bL (1+l,j) a),.c (.ptr (0,0) 0),.c (.d (.i .i64 b))])=true:=fun {a b}=>by simp[jF,gQ,V.refs,C.refs,kW];omega
  simp only at p1 p2 p3
  simp -implicitDefEqProofs (disch:=omega) only[go_sem]
  with_reducible refine aA (fun hb=> ?_) (fun hb=> ?_)<;>have h:=hb<;>(try simp only[wf_preprocess] at h)<;>simp -implicitDefEqProofs (disch:=omega) only[go_sem,hb]<;>(repeat(with_reducible refine And.intro ?_ ?_;focus first|omega|rfl|assumption|exact⟨_,rfl,rfl⟩|(simp;omega)|(simp;done)))
  ·have hi:i<x.fArgs.length:=by omega
   have hs:=List.sizeOf_lt_of_mem (List.getElem_mem hi)
   have hz:=au.qK hi
   rw[HZ hi] at p3
   rw[au.jH hi] at p2
   have hlo:=qN x.fArgs[i] (if x.aM=8∧i=1 then bound++[x.fName] else bound) o
   have two:x.fArgs[i].sz+(bound.length+1)≤1073741824:=by omega
   repeat' (first|with_reducible refine aA (fun hb=> ?_) (fun hb=> ?_)<;>have h:=hb<;>(try simp only[wf_preprocess] at h)<;>simp -implicitDefEqProofs (disch:=omega) only[go_sem,hb]<;>(repeat(with_reducible refine And.intro ?_ ?_;focus first|omega|rfl|assumption|exact⟨_,rfl,rfl⟩|(simp;omega)|(simp;done))))
   ·have e1:x.aM=8∧i=1:=⟨by omega,by omega⟩
    rw[if_pos e1] at p3 hlo
    refine⟨yB,⟨_,rfl,rfl⟩,fun y hy=>(by cases hy),by omega,?_⟩
    (repeat(with_reducible refine And.intro ?_ ?_;focus first|omega|rfl|assumption|exact⟨_,rfl,rfl⟩|(simp;omega)|(simp;done)))
    rw[DR]
    refine oW [true,false,true] rfl (ih x.fArgs[i] (by omega) (by omega) (bound++[x.fName]) o (1+l) j _ (by simp -implicitDefEqProofs (disch:=omega) only[go_sem];exact GI _) (by omega) (by simp only[List.length_append,List.length_cons,List.length_nil];omega)) ?_
    simp -implicitDefEqProofs (disch:=omega) only[go_sem,bK]
    exact dA 1 (by decide) (i+1,iF x.fArgs[i] (bound++[x.fName]) o) (by simp only;omega) rfl rfl refs rfl ⟨by simp only;omega,by simp only;omega,p3⟩
   all_goals
    have e1:¬(x.aM=8∧i=1):=fun h=>by omega
    rw[if_neg e1] at p3 hlo
    (repeat(with_reducible refine And.intro ?_ ?_;focus first|omega|rfl|assumption|exact⟨_,rfl,rfl⟩|(simp;omega)|(simp;done)))
    refine bq rfl (ih x.fArgs[i] (by omega) (by omega) bound o (1+l) j _ (by simp -implicitDefEqProofs (disch:=omega) only[go_sem];exact GI _) (by omega) (by omega)) ?_
    simp -implicitDefEqProofs (disch:=omega) only[go_sem,bK]
    exact dA 1 (by decide) (i+1,iF x.fArgs[i] bound o) (by simp only;omega) rfl rfl refs rfl ⟨by simp only;omega,by simp only;omega,p3⟩
  have hi:i=x.fArgs.length:=by omega
  rw[hi,List.drop_length] at p2 p3
  rw[au.bY] at p2
  rw[nP] at p3
  rw[←p3] at fin
  clear p3 refs
  refine aX (ι:=Nat×List (List UInt8)) Tryz.checked.mixed rfl [1,2,3,9] (fun y=>[.c (.d (.sl (bound.map encS))),.c (.bL (1+l,j) (y.2.map encS)),.c (.ptr (0,0) 0),.c (.d (.i .i64 y.1))]) (fun y=>[.box (x.enc.map .d)]::aY S (l,j) (.tok 1 (y.2.map encS)))
   (fun y=>y.1≤x.aK.length∧y.2.length+aJ.bY (x.aK.drop y.1)≤1073741824∧qV (x.aK.drop y.1) bound y.2=iF x bound out) (fun y=>x.aK.length-y.1) (0,o) rfl ?_ ⟨Nat.zero_le _,by simp only[List.drop_zero];omega,fin.symm⟩ ?_
  ·simp -implicitDefEqProofs (disch:=omega) only[go_sem]
  clear p1 p2 fin hal
  rintro⟨i,o⟩ ⟨p1,p2,p3⟩
  have refs:∀a b,jF 1 (gQ [1,2,3,9] [.c (.d (.sl (bound.map encS))),.c (.bL (1+l,j) a),.c (.ptr (0,0) 0),.c (.d (.i .i64 b))])=true:=fun a b=>by simp[jF,gQ,V.refs,C.refs,kW];omega
  simp only at p1 p2 p3
  simp -implicitDefEqProofs (disch:=omega) only[go_sem]
  with_reducible refine aA (fun hb=> ?_) (fun hb=> ?_)<;>have h:=hb<;>(try simp only[wf_preprocess] at h)<;>simp -implicitDefEqProofs (disch:=omega) only[go_sem,hb]<;>(repeat(with_reducible refine And.intro ?_ ?_;focus first|omega|rfl|assumption|exact⟨_,rfl,rfl⟩|(simp;omega)|(simp;done)))
  ·have hi:i<x.aK.length:=by omega
   have hs:=List.sizeOf_lt_of_mem (List.getElem_mem hi)
   have hs':=aJ.j3 x.aK[i]
   have hz:=au.VH hi
   have hz':=aJ.Qk x.aK[i]
   rw[H6 hi,NC] at p3
   rw[aJ.jH hi] at p2
   have hlo:=qN x.aK[i].fBody (bound++x.aK[i].aN) o
   refine⟨yB,⟨_,rfl,rfl⟩,fun y hy=>(by cases hy),by omega,⟨by omega,hi⟩,yB,⟨_,rfl,rfl⟩,by omega,?_⟩
   rw[←List.map_append]
   refine oW [true,false,true] rfl (ih x.aK[i].fBody (by omega) (by omega) (bound++x.aK[i].aN) o (1+l) j _ (by simp -implicitDefEqProofs (disch:=omega) only[go_sem];exact GI _) (by omega) (by simp only[List.length_append];omega)) ?_
   simp -implicitDefEqProofs (disch:=omega) only[go_sem,bK]
   exact dA 1 (by decide) (i+1,iF x.aK[i].fBody (bound++x.aK[i].aN) o) (by simp only;omega) rfl rfl (refs _ _) rfl ⟨by simp only;omega,by simp only;omega,p3⟩
  ·have hi:i=x.aK.length:=by omega
   rw[hi,List.drop_length,qV] at p3
   rw[←p3]
   exact⟨rfl,rfl⟩
theorem H8(x:au)(hsz:x.sz≤4194304):aI Tryz.prog 311 [x.v] (.c (.d (.sl ((iF x [] []).map encS)))):=fun S=>by
 have hc:=au.jR x
 have h0:∀S,bD Tryz.prog 343 [x.v,.c (.d (.sl [])),.c (.aO [])] S (fun r S'=>r=.c (.d (.sl ((iF x [] []).map encS)))∧S'=S):=fun S=>by
  refine bD.XE 2 (es:=[]) (aQ:=1) rfl (by simp) (Df _ x (Nat.lt_succ_self _) hsz [] [] 0 0 ([.tok 1 []]::S) rfl (by simp;omega) (by simp;omega)) ?_
  rintro r fr S' ⟨rfl,h2⟩
  injection h2 with h2 h3
  exact⟨_,rfl,rfl,h3⟩
 refine aF (rs:=[.tmp 2]) Tryz.checked.mixed Tryz.func311 Tryz.ntmps311 rfl rfl rfl rfl rfl ?_
 simp -implicitDefEqProofs (disch:=omega) only[go_sem]
 (repeat(with_reducible refine And.intro ?_ ?_;focus first|omega|rfl|assumption|exact⟨_,rfl,rfl⟩|(simp;omega)|(simp;done)))
 refine oW [true,false,true] rfl (h0 _) ?_
 simp -implicitDefEqProofs (disch:=omega) only[go_sem]
end Go.Proofs.YtlmhknhlmicmeaaGreatDoor
namespace Go.Proofs.YtlmhknhlmicmeaaGreatDoor
open Go Go.Ab
theorem wM:∀n:Nat,(∀x:aj,SizeOf.sizeOf x<n→∀y:aj,x.sz≤4194304→aI Tryz.prog 360 [x.v,y.v] (.c (.d (.b (dec (x=y))))))∧
 (∀xs:List aj,SizeOf.sizeOf xs<n→∀ys:List aj,xs.length+bF (xs.map aj.enc)≤4194304→aI Tryz.prog 375 [.c (.d (.sl (xs.map aj.enc))),.c (.d (.sl (ys.map aj.enc)))] (.c (.d (.b (dec (xs=ys))))))
 |0=>⟨fun x h=>by omega,fun x h=>by omega⟩
 |n+1=>by
  obtain⟨ih,lF⟩:=wM n
  refine⟨fun x hn y hsz S=> ?_,fun xs hn ys hsz S=> ?_⟩
  ·have gZ:=aj.fq x
   simp only[aj.sz,aj.aH,bO,bN,D.sz,List.length_map] at hsz
   refine aF (rs:=[.tmp 4]) Tryz.checked.mixed Tryz.func360 Tryz.ntmps360 rfl rfl rfl rfl rfl ?_
   simp -implicitDefEqProofs (disch:=omega) only[go_sem]
   with_reducible refine aA (fun hb=> ?_) (fun hb=> ?_)<;>have h:=hb<;>(try simp only[wf_preprocess] at h)<;>simp -implicitDefEqProofs (disch:=omega) only[go_sem,hb]<;>(repeat(with_reducible refine And.intro ?_ ?_;focus first|omega|rfl|assumption|exact⟨_,rfl,rfl⟩|(simp;omega)|(simp;done)))
   ·with_reducible refine aA (fun hb=> ?_) (fun hb=> ?_)<;>have h:=hb<;>(try simp only[wf_preprocess] at h)<;>simp -implicitDefEqProofs (disch:=omega) only[go_sem,hb]<;>(repeat(with_reducible refine And.intro ?_ ?_;focus first|omega|rfl|assumption|exact⟨_,rfl,rfl⟩|(simp;omega)|(simp;done)))
    ·(repeat(with_reducible refine And.intro ?_ ?_;focus first|omega|rfl|assumption|exact⟨_,rfl,rfl⟩|(simp;omega)|(simp;done)))
     refine ay (lF x.fArgs (by omega) y.fArgs (by omega)) ?_
     simp -implicitDefEqProofs (disch:=omega) only[go_sem]
     refine aD (iq ⟨fun e=> ?_,fun e=>by rw[e]⟩)
     exact aj.ext ‹x.aM=y.aM› h e
    ·exact aD (aL (fun e=>h (by rw[e]))).symm
   ·exact aD (aL (fun e=>h (by rw[e]))).symm
  ·refine aF (rs:=[.tmp 4]) Tryz.checked.mixed Tryz.func375 Tryz.ntmps375 rfl rfl rfl rfl rfl ?_
   simp -implicitDefEqProofs (disch:=omega) only[go_sem]
   with_reducible refine aA (fun hb=> ?_) (fun hb=> ?_)<;>have h:=hb<;>(try simp only[wf_preprocess] at h)<;>simp -implicitDefEqProofs (disch:=omega) only[go_sem,hb]<;>(repeat(with_reducible refine And.intro ?_ ?_;focus first|omega|rfl|assumption|exact⟨_,rfl,rfl⟩|(simp;omega)|(simp;done)))
   ·exact aD (aL (fun e=>h (by rw[e]))).symm
   have hl:xs.length=ys.length:=by omega
   refine aX (ι:=Nat) Tryz.checked.mixed rfl [0,1,5] (fun y=>[.c (.d (.sl (xs.map aj.enc))),.c (.d (.sl (ys.map aj.enc))),.c (.d (.i .i64 y))]) (fun y=>[]::S)
    (fun i=>i≤xs.length∧∀j,j<i→xs[j]? =ys[j]?) (fun y=>xs.length-y) 0 rfl rfl ⟨Nat.zero_le _,fun j h=>by omega⟩ ?_
   rintro i ⟨p1,p2⟩
   simp -implicitDefEqProofs (disch:=omega) only[go_sem]
   with_reducible refine aA (fun hb=> ?_) (fun hb=> ?_)<;>have h:=hb<;>(try simp only[wf_preprocess] at h)<;>simp -implicitDefEqProofs (disch:=omega) only[go_sem,hb]<;>(repeat(with_reducible refine And.intro ?_ ?_;focus first|omega|rfl|assumption|exact⟨_,rfl,rfl⟩|(simp;omega)|(simp;done)))
   ·have hi:i<xs.length:=by omega
    have hi':i<ys.length:=by omega
    have hx:xs[i].sz≤bF (xs.map aj.enc):=dP (List.mem_map_of_mem (List.getElem_mem hi))
    (repeat(with_reducible refine And.intro ?_ ?_;focus first|omega|rfl|assumption|exact⟨_,rfl,rfl⟩|(simp;omega)|(simp;done)))
    refine ay (ih xs[i] (by have:=List.sizeOf_lt_of_mem (List.getElem_mem hi);omega) ys[i] (by omega)) ?_
    simp -implicitDefEqProofs (disch:=omega) only[go_sem]
    with_reducible refine aA (fun hb=> ?_) (fun hb=> ?_)<;>have h:=hb<;>(try simp only[wf_preprocess] at h)<;>simp -implicitDefEqProofs (disch:=omega) only[go_sem,hb]<;>(repeat(with_reducible refine And.intro ?_ ?_;focus first|omega|rfl|assumption|exact⟨_,rfl,rfl⟩|(simp;omega)|(simp;done)))
    ·exact aD (aL (fun e=>h (by simp only[e]))).symm
    refine bI (i+1) (by omega) rfl rfl ⟨by omega,fun j hj=> ?_⟩
    by_cases e:j=i
    ·subst e
     rw[List.getElem?_eq_getElem hi,List.getElem?_eq_getElem hi',h]
    ·exact p2 j (by omega)
   ·have hi:i=xs.length:=by omega
    refine aD (bC (List.ext_getElem? fun j=> ?_)).symm
    by_cases hj:j<i
    ·exact p2 j hj
    ·rw[List.getElem?_eq_none (by omega),List.getElem?_eq_none (by omega)]
theorem Fq(x y:aj)(h:x.sz≤4194304):aI Tryz.prog 360 [x.v,y.v] (.c (.d (.b (dec (x=y))))):=(wM _).1 x (Nat.lt_succ_self _) y h
theorem wN:∀n:Nat,(∀x:aj,SizeOf.sizeOf x<n→∀y:aj,x.sz≤4194304→aI Tryz.prog 355 [x.v,y.v] (.c (.d (.b (dec (x=y))))))∧
 (∀xs:List aj,SizeOf.sizeOf xs<n→∀ys:List aj,xs.length+bF (xs.map aj.enc)≤4194304→aI Tryz.prog 374 [.c (.d (.sl (xs.map aj.enc))),.c (.d (.sl (ys.map aj.enc))),.c (.fn 355 [])] (.c (.d (.b (dec (xs=ys))))))
 |0=>⟨fun x h=>by omega,fun x h=>by omega⟩
 |n+1=>by
  obtain⟨ih,lF⟩:=wN n
  refine⟨fun x hn y hsz S=> ?_,fun xs hn ys hsz S=> ?_⟩
  ·have gZ:=aj.fq x
   simp only[aj.sz,aj.aH,bO,bN,D.sz,List.length_map] at hsz
   refine aF (rs:=[.tmp 4]) Tryz.checked.mixed Tryz.func355 Tryz.ntmps355 rfl rfl rfl rfl rfl ?_
   simp -implicitDefEqProofs (disch:=omega) only[go_sem]
   with_reducible refine aA (fun hb=> ?_) (fun hb=> ?_)<;>have h:=hb<;>(try simp only[wf_preprocess] at h)<;>simp -implicitDefEqProofs (disch:=omega) only[go_sem,hb]<;>(repeat(with_reducible refine And.intro ?_ ?_;focus first|omega|rfl|assumption|exact⟨_,rfl,rfl⟩|(simp;omega)|(simp;done)))
   ·with_reducible refine aA (fun hb=> ?_) (fun hb=> ?_)<;>have h:=hb<;>(try simp only[wf_preprocess] at h)<;>simp -implicitDefEqProofs (disch:=omega) only[go_sem,hb]<;>(repeat(with_reducible refine And.intro ?_ ?_;focus first|omega|rfl|assumption|exact⟨_,rfl,rfl⟩|(simp;omega)|(simp;done)))
    ·(repeat(with_reducible refine And.intro ?_ ?_;focus first|omega|rfl|assumption|exact⟨_,rfl,rfl⟩|(simp;omega)|(simp;done)))
     refine ay (lF x.fArgs (by omega) y.fArgs (by omega)) ?_
     simp -implicitDefEqProofs (disch:=omega) only[go_sem]
     refine aD (iq ⟨fun e=> ?_,fun e=>by rw[e]⟩)
     exact aj.ext ‹x.aM=y.aM› h e
    ·exact aD (aL (fun e=>h (by rw[e]))).symm
   ·exact aD (aL (fun e=>h (by rw[e]))).symm
  ·refine aF (rs:=[.tmp 6]) Tryz.checked.mixed Tryz.func374 Tryz.ntmps374 rfl rfl rfl rfl rfl ?_
   simp -implicitDefEqProofs (disch:=omega) only[go_sem]
   with_reducible refine aA (fun hb=> ?_) (fun hb=> ?_)<;>have h:=hb<;>(try simp only[wf_preprocess] at h)<;>simp -implicitDefEqProofs (disch:=omega) only[go_sem,hb]<;>(repeat(with_reducible refine And.intro ?_ ?_;focus first|omega|rfl|assumption|exact⟨_,rfl,rfl⟩|(simp;omega)|(simp;done)))
   ·exact aD (aL (fun e=>h (by rw[e]))).symm
   have hl:xs.length=ys.length:=by omega
   refine aX (ι:=Nat) Tryz.checked.mixed rfl [1,2,15,16,17] (fun y=>[.c (.d (.sl (ys.map aj.enc))),.c (.fn 355 []),.c (.d (.sl (xs.map aj.enc))),.c (.d (.i .i64 xs.length)),.c (.d (.i .i64 y))]) (fun y=>[]::S)
    (fun i=>i≤xs.length∧∀j,j<i→xs[j]? =ys[j]?) (fun y=>xs.length-y) 0 rfl rfl ⟨Nat.zero_le _,fun j h=>by omega⟩ ?_
   rintro i ⟨p1,p2⟩
   simp -implicitDefEqProofs (disch:=omega) only[go_sem]
   with_reducible refine aA (fun hb=> ?_) (fun hb=> ?_)<;>have h:=hb<;>(try simp only[wf_preprocess] at h)<;>simp -implicitDefEqProofs (disch:=omega) only[go_sem,hb]<;>(repeat(with_reducible refine And.intro ?_ ?_;focus first|omega|rfl|assumption|exact⟨_,rfl,rfl⟩|(simp;omega)|(simp;done)))
   ·have hi:i<xs.length:=by omega
    have hi':i<ys.length:=by omega
    have hx:xs[i].sz≤bF (xs.map aj.enc):=dP (List.mem_map_of_mem (List.getElem_mem hi))
    (repeat(with_reducible refine And.intro ?_ ?_;focus first|omega|rfl|assumption|exact⟨_,rfl,rfl⟩|(simp;omega)|(simp;done)))
    refine ay (ih xs[i] (by have:=List.sizeOf_lt_of_mem (List.getElem_mem hi);omega) ys[i] (by omega)) ?_
    simp -implicitDefEqProofs (disch:=omega) only[go_sem]
    with_reducible refine aA (fun hb=> ?_) (fun hb=> ?_)<;>have h:=hb<;>(try simp only[wf_preprocess] at h)<;>simp -implicitDefEqProofs (disch:=omega) only[go_sem,hb]<;>(repeat(with_reducible refine And.intro ?_ ?_;focus first|omega|rfl|assumption|exact⟨_,rfl,rfl⟩|(simp;omega)|(simp;done)))
    ·exact aD (aL (fun e=>h (by simp only[e]))).symm
    refine dA 0 (by decide) (i+1) (by omega) rfl rfl rfl rfl ⟨by omega,fun j hj=> ?_⟩
    by_cases e:j=i
    ·subst e
     rw[List.getElem?_eq_getElem hi,List.getElem?_eq_getElem hi',h]
    ·exact p2 j (by omega)
   ·have hi:i=xs.length:=by omega
    refine aD (bC (List.ext_getElem? fun j=> ?_)).symm
    by_cases hj:j<i
    ·exact p2 j hj
    ·rw[List.getElem?_eq_none (by omega),List.getElem?_eq_none (by omega)]
theorem Fu(x y:aj)(h:x.sz≤4194304):aI Tryz.prog 355 [x.v,y.v] (.c (.d (.b (dec (x=y))))):=(wN _).1 x (Nat.lt_succ_self _) y h
end Go.Proofs.YtlmhknhlmicmeaaGreatDoor
namespace Go.Ab
theorem au.yC{x:au}(h:x.sz≤4194304):x.bB.length≤4194304∧x.fName.length≤4194304∧x.fType.sz≤4194304∧x.fArgs.length≤4194304∧x.aK.length≤4194304:=by
 simp only[au.sz,au.aH,bO,bN,D.sz,List.length_map,aj.dO] at h
 omega
theorem au.Y0{x:au}{i:Nat}(hi:i<x.fArgs.length)(h:x.sz≤4194304):x.fArgs[i].sz≤4194304:=by
 have hx:x.fArgs[i].sz≤bF (x.fArgs.map au.enc):=dP (List.mem_map_of_mem (List.getElem_mem hi))
 simp only[au.sz,au.aH,bO,bN,D.sz,List.length_map,aj.dO] at h
 omega
theorem au.Y1{x:au}{i:Nat}(hi:i<x.aK.length)(h:x.sz≤4194304):x.aK[i].sz≤4194304:=by
 have hx:x.aK[i].sz≤bF (x.aK.map aJ.enc):=dP (List.mem_map_of_mem (List.getElem_mem hi))
 simp only[au.sz,au.aH,bO,bN,D.sz,List.length_map,aj.dO] at h
 omega
theorem aJ.yC{x:aJ}(h:x.sz≤4194304):x.bP.length≤4194304∧x.aN.length≤4194304∧x.fBody.sz≤4194304:=by
 simp only[aJ.sz,aJ.aH,bO,bN,D.sz,List.length_map,au.dO] at h
 omega
end Go.Ab
namespace Go.Proofs.YtlmhknhlmicmeaaGreatDoor
open Go Go.Ab
theorem wO:∀n:Nat,∀x:au,SizeOf.sizeOf x<n→∀y:au,x.sz≤4194304→aI Tryz.prog 339 [x.v,y.v] (.c (.d (.b (dec (x=y)))))
 |0=>fun x h=>by omega
 |n+1=>by
  have ih:=wO n
  intro x hn y hsz S
  have gZ:=au.fq x
  have vw:=au.kJ x
  have hb0:=au.yC hsz
  have hargs:=ES 339 x.fArgs y.fArgs (by omega) (fun u hu v=>by
   obtain⟨i,hi,e⟩:=List.getElem_of_mem hu
   have:=List.sizeOf_lt_of_mem hu
   exact ih u (by omega) v (by rw[←e];exact au.Y0 hi hsz))
  have aea:=GK 358 x.aK y.aK (by omega) (fun u hu v=>by
   obtain⟨i,hi,e⟩:=List.getElem_of_mem hu
   have hs:=List.sizeOf_lt_of_mem hu
   have hz:u.sz≤4194304:=by rw[←e];exact au.Y1 hi hsz
   have hz':=aJ.yC hz
   have YU:=aJ.j3 u
   intro S
   refine aF (rs:=[.tmp 4]) Tryz.checked.mixed Tryz.func358 Tryz.ntmps358 rfl rfl rfl rfl rfl ?_
   simp -implicitDefEqProofs (disch:=omega) only[go_sem]
   with_reducible refine aA (fun hb=> ?_) (fun hb=> ?_)<;>have h:=hb<;>(try simp only[wf_preprocess] at h)<;>simp -implicitDefEqProofs (disch:=omega) only[go_sem,hb]<;>(repeat(with_reducible refine And.intro ?_ ?_;focus first|omega|rfl|assumption|exact⟨_,rfl,rfl⟩|(simp;omega)|(simp;done)))
   ·have h1:=h
    refine ay (U8 u.aN v.aN (by omega)) ?_
    simp -implicitDefEqProofs (disch:=omega) only[go_sem]<;>(repeat(with_reducible refine And.intro ?_ ?_;focus first|omega|rfl|assumption|exact⟨_,rfl,rfl⟩|(simp;omega)|(simp;done)))
    with_reducible refine aA (fun hb=> ?_) (fun hb=> ?_)<;>have h:=hb<;>(try simp only[wf_preprocess] at h)<;>simp -implicitDefEqProofs (disch:=omega) only[go_sem,hb]<;>(repeat(with_reducible refine And.intro ?_ ?_;focus first|omega|rfl|assumption|exact⟨_,rfl,rfl⟩|(simp;omega)|(simp;done)))
    ·have h2:=h
     refine ay (ih u.fBody (by omega) v.fBody (by omega)) ?_
     simp -implicitDefEqProofs (disch:=omega) only[go_sem]<;>(repeat(with_reducible refine And.intro ?_ ?_;focus first|omega|rfl|assumption|exact⟨_,rfl,rfl⟩|(simp;omega)|(simp;done)))
     exact aD (iq ⟨fun e=>aJ.ext h1 h2 e,fun e=>by rw[e]⟩)
    ·exact aD (aL (fun e=>h (by rw[e]))).symm
   ·exact aD (aL (fun e=>h (by rw[e]))).symm)
  refine aF (rs:=[.tmp 4]) Tryz.checked.mixed Tryz.func339 Tryz.ntmps339 rfl rfl rfl rfl rfl ?_
  simp -implicitDefEqProofs (disch:=omega) only[go_sem]
  with_reducible refine aA (fun hb=> ?_) (fun hb=> ?_)<;>have h:=hb<;>(try simp only[wf_preprocess] at h)<;>simp -implicitDefEqProofs (disch:=omega) only[go_sem,hb]<;>(repeat(with_reducible refine And.intro ?_ ?_;focus first|omega|rfl|assumption|exact⟨_,rfl,rfl⟩|(simp;omega)|(simp;done)))
  ·have h1:=h
   with_reducible refine aA (fun hb=> ?_) (fun hb=> ?_)<;>have h:=hb<;>(try simp only[wf_preprocess] at h)<;>simp -implicitDefEqProofs (disch:=omega) only[go_sem,hb]<;>(repeat(with_reducible refine And.intro ?_ ?_;focus first|omega|rfl|assumption|exact⟨_,rfl,rfl⟩|(simp;omega)|(simp;done)))
   ·have h2:=h
    with_reducible refine aA (fun hb=> ?_) (fun hb=> ?_)<;>have h:=hb<;>(try simp only[wf_preprocess] at h)<;>simp -implicitDefEqProofs (disch:=omega) only[go_sem,hb]<;>(repeat(with_reducible refine And.intro ?_ ?_;focus first|omega|rfl|assumption|exact⟨_,rfl,rfl⟩|(simp;omega)|(simp;done)))
    ·have h3:=h
     with_reducible refine aA (fun hb=> ?_) (fun hb=> ?_)<;>have h:=hb<;>(try simp only[wf_preprocess] at h)<;>simp -implicitDefEqProofs (disch:=omega) only[go_sem,hb]<;>(repeat(with_reducible refine And.intro ?_ ?_;focus first|omega|rfl|assumption|exact⟨_,rfl,rfl⟩|(simp;omega)|(simp;done)))
     ·have h4:=h
      refine ay (Fu x.fType y.fType (by omega)) ?_
      simp -implicitDefEqProofs (disch:=omega) only[go_sem]<;>(repeat(with_reducible refine And.intro ?_ ?_;focus first|omega|rfl|assumption|exact⟨_,rfl,rfl⟩|(simp;omega)|(simp;done)))
      with_reducible refine aA (fun hb=> ?_) (fun hb=> ?_)<;>have h:=hb<;>(try simp only[wf_preprocess] at h)<;>simp -implicitDefEqProofs (disch:=omega) only[go_sem,hb]<;>(repeat(with_reducible refine And.intro ?_ ?_;focus first|omega|rfl|assumption|exact⟨_,rfl,rfl⟩|(simp;omega)|(simp;done)))
      ·have h5:=h
       refine ay (hargs) ?_
       simp -implicitDefEqProofs (disch:=omega) only[go_sem]<;>(repeat(with_reducible refine And.intro ?_ ?_;focus first|omega|rfl|assumption|exact⟨_,rfl,rfl⟩|(simp;omega)|(simp;done)))
       with_reducible refine aA (fun hb=> ?_) (fun hb=> ?_)<;>have h:=hb<;>(try simp only[wf_preprocess] at h)<;>simp -implicitDefEqProofs (disch:=omega) only[go_sem,hb]<;>(repeat(with_reducible refine And.intro ?_ ?_;focus first|omega|rfl|assumption|exact⟨_,rfl,rfl⟩|(simp;omega)|(simp;done)))
       ·have h6:=h
        refine ay (aea) ?_
        simp -implicitDefEqProofs (disch:=omega) only[go_sem]<;>(repeat(with_reducible refine And.intro ?_ ?_;focus first|omega|rfl|assumption|exact⟨_,rfl,rfl⟩|(simp;omega)|(simp;done)))
        exact aD (iq ⟨fun e=>au.ext h1 h2 h3 h4 h5 h6 e,fun e=>by rw[e]⟩)
       ·exact aD (aL (fun e=>h (by rw[e]))).symm
      ·exact aD (aL (fun e=>h (by rw[e]))).symm
     ·exact aD (aL (fun e=>h (by rw[e]))).symm
    ·exact aD (aL (fun e=>h (by rw[e]))).symm
   ·exact aD (aL (fun e=>h (by rw[e]))).symm
  ·exact aD (aL (fun e=>h (by rw[e]))).symm
theorem Fv(x y:au)(h:x.sz≤4194304):aI Tryz.prog 339 [x.v,y.v] (.c (.d (.b (dec (x=y))))):=wO _ x (Nat.lt_succ_self _) y h
theorem wP:∀n:Nat,∀x:au,SizeOf.sizeOf x<n→∀y:au,x.sz≤4194304→aI Tryz.prog 341 [x.v,y.v] (.c (.d (.b (dec (x=y)))))
 |0=>fun x h=>by omega
 |n+1=>by
  have ih:=wP n
  intro x hn y hsz S
  have gZ:=au.fq x
  have vw:=au.kJ x
  have hb0:=au.yC hsz
  refine aF (rs:=[.tmp 4]) Tryz.checked.mixed Tryz.func341 Tryz.ntmps341 rfl rfl rfl rfl rfl ?_
  simp -implicitDefEqProofs (disch:=omega) only[go_sem]
  with_reducible refine aA (fun hb=> ?_) (fun hb=> ?_)<;>have h:=hb<;>(try simp only[wf_preprocess] at h)<;>simp -implicitDefEqProofs (disch:=omega) only[go_sem,hb]<;>(repeat(with_reducible refine And.intro ?_ ?_;focus first|omega|rfl|assumption|exact⟨_,rfl,rfl⟩|(simp;omega)|(simp;done)))
  ·exact aD (aL (fun e=>h (by rw[e]))).symm
  have h1:=h
  with_reducible refine aA (fun hb=> ?_) (fun hb=> ?_)<;>have h:=hb<;>(try simp only[wf_preprocess] at h)<;>simp -implicitDefEqProofs (disch:=omega) only[go_sem,hb]<;>(repeat(with_reducible refine And.intro ?_ ?_;focus first|omega|rfl|assumption|exact⟨_,rfl,rfl⟩|(simp;omega)|(simp;done)))
  ·exact aD (aL (fun e=>h (by rw[e]))).symm
  have h2:=h
  with_reducible refine aA (fun hb=> ?_) (fun hb=> ?_)<;>have h:=hb<;>(try simp only[wf_preprocess] at h)<;>simp -implicitDefEqProofs (disch:=omega) only[go_sem,hb]<;>(repeat(with_reducible refine And.intro ?_ ?_;focus first|omega|rfl|assumption|exact⟨_,rfl,rfl⟩|(simp;omega)|(simp;done)))
  ·exact aD (aL (fun e=>h (by rw[e]))).symm
  have h3:=h
  with_reducible refine aA (fun hb=> ?_) (fun hb=> ?_)<;>have h:=hb<;>(try simp only[wf_preprocess] at h)<;>simp -implicitDefEqProofs (disch:=omega) only[go_sem,hb]<;>(repeat(with_reducible refine And.intro ?_ ?_;focus first|omega|rfl|assumption|exact⟨_,rfl,rfl⟩|(simp;omega)|(simp;done)))
  ·exact aD (aL (fun e=>h (by rw[e]))).symm
  have h4:=h
  refine ay (Fq x.fType y.fType (by omega)) ?_
  simp -implicitDefEqProofs (disch:=omega) only[go_sem]<;>(repeat(with_reducible refine And.intro ?_ ?_;focus first|omega|rfl|assumption|exact⟨_,rfl,rfl⟩|(simp;omega)|(simp;done)))
  with_reducible refine aA (fun hb=> ?_) (fun hb=> ?_)<;>have h:=hb<;>(try simp only[wf_preprocess] at h)<;>simp -implicitDefEqProofs (disch:=omega) only[go_sem,hb]<;>(repeat(with_reducible refine And.intro ?_ ?_;focus first|omega|rfl|assumption|exact⟨_,rfl,rfl⟩|(simp;omega)|(simp;done)))
  ·exact aD (aL (fun e=>h (by rw[e]))).symm
  have h5:=h
  with_reducible refine aA (fun hb=> ?_) (fun hb=> ?_)<;>have h:=hb<;>(try simp only[wf_preprocess] at h)<;>simp -implicitDefEqProofs (disch:=omega) only[go_sem,hb]<;>(repeat(with_reducible refine And.intro ?_ ?_;focus first|omega|rfl|assumption|exact⟨_,rfl,rfl⟩|(simp;omega)|(simp;done)))
  ·exact aD (aL (fun e=>h (by rw[e]))).symm
  have h6:x.fArgs.length=y.fArgs.length:=by omega
  with_reducible refine aA (fun hb=> ?_) (fun hb=> ?_)<;>have h:=hb<;>(try simp only[wf_preprocess] at h)<;>simp -implicitDefEqProofs (disch:=omega) only[go_sem,hb]<;>(repeat(with_reducible refine And.intro ?_ ?_;focus first|omega|rfl|assumption|exact⟨_,rfl,rfl⟩|(simp;omega)|(simp;done)))
  ·exact aD (aL (fun e=>h (by rw[e]))).symm
  have h7:x.aK.length=y.aK.length:=by omega
  refine aX (ι:=Nat) Tryz.checked.mixed rfl [2,3,5] (fun i=>[.c (.ptr (0,0) 0),.c (.ptr (0,1) 0),.c (.d (.i .i64 i))]) (fun _=>[.box (x.enc.map .d),.box (y.enc.map .d)]::S)
   (fun i=>i≤x.fArgs.length∧∀j,j<i→x.fArgs[j]? =y.fArgs[j]?) (fun i=>x.fArgs.length-i) 0 rfl ?_ ⟨Nat.zero_le _,fun j h=>by omega⟩ ?_
  ·simp -implicitDefEqProofs (disch:=omega) only[go_sem]
  rintro i ⟨p1,p2⟩
  simp -implicitDefEqProofs (disch:=omega) only[go_sem]
  with_reducible refine aA (fun hb=> ?_) (fun hb=> ?_)<;>have h:=hb<;>(try simp only[wf_preprocess] at h)<;>simp -implicitDefEqProofs (disch:=omega) only[go_sem,hb]<;>(repeat(with_reducible refine And.intro ?_ ?_;focus first|omega|rfl|assumption|exact⟨_,rfl,rfl⟩|(simp;omega)|(simp;done)))
  ·have hi:i<x.fArgs.length:=by omega
   have hi':i<y.fArgs.length:=by omega
   (repeat(with_reducible refine And.intro ?_ ?_;focus first|omega|rfl|assumption|exact⟨_,rfl,rfl⟩|(simp;omega)|(simp;done)))
   refine ay (ih x.fArgs[i] (by have:=List.sizeOf_lt_of_mem (List.getElem_mem hi);omega) y.fArgs[i] (au.Y0 hi hsz)) ?_
   simp -implicitDefEqProofs (disch:=omega) only[go_sem]<;>(repeat(with_reducible refine And.intro ?_ ?_;focus first|omega|rfl|assumption|exact⟨_,rfl,rfl⟩|(simp;omega)|(simp;done)))
   with_reducible refine aA (fun hb=> ?_) (fun hb=> ?_)<;>have h:=hb<;>(try simp only[wf_preprocess] at h)<;>simp -implicitDefEqProofs (disch:=omega) only[go_sem,hb]<;>(repeat(with_reducible refine And.intro ?_ ?_;focus first|omega|rfl|assumption|exact⟨_,rfl,rfl⟩|(simp;omega)|(simp;done)))
   ·exact aD (aL (fun e=>h (by simp only[e]))).symm
   refine bI (i+1) (by omega) rfl rfl ⟨by omega,fun j hj=> ?_⟩
   by_cases e:j=i
   ·subst e
    rw[List.getElem?_eq_getElem hi,List.getElem?_eq_getElem hi',h]
   ·exact p2 j (by omega)
  have hi:i=x.fArgs.length:=by omega
  have h8:x.fArgs=y.fArgs:=List.ext_getElem? fun j=>by
   by_cases hj:j<i
   ·exact p2 j hj
   ·rw[List.getElem?_eq_none (by omega),List.getElem?_eq_none (by omega)]
  refine aX (ι:=Nat) Tryz.checked.mixed rfl [2,3,6] (fun i=>[.c (.ptr (0,0) 0),.c (.ptr (0,1) 0),.c (.d (.i .i64 i))]) (fun _=>[.box (x.enc.map .d),.box (y.enc.map .d)]::S)
   (fun i=>i≤x.aK.length∧∀j,j<i→x.aK[j]? =y.aK[j]?) (fun i=>x.aK.length-i) 0 rfl ?_ ⟨Nat.zero_le _,fun j h=>by omega⟩ ?_
  ·simp -implicitDefEqProofs (disch:=omega) only[go_sem]
  clear p1 p2 hi hb h
  clear i
  rintro i ⟨p1,p2⟩
  simp -implicitDefEqProofs (disch:=omega) only[go_sem]
  with_reducible refine aA (fun hb=> ?_) (fun hb=> ?_)<;>have h:=hb<;>(try simp only[wf_preprocess] at h)<;>simp -implicitDefEqProofs (disch:=omega) only[go_sem,hb]<;>(repeat(with_reducible refine And.intro ?_ ?_;focus first|omega|rfl|assumption|exact⟨_,rfl,rfl⟩|(simp;omega)|(simp;done)))
  ·have hi:i<x.aK.length:=by omega
   have hi':i<y.aK.length:=by omega
   have hs:=List.sizeOf_lt_of_mem (List.getElem_mem hi)
   have hz:=aJ.yC (au.Y1 hi hsz)
   have YU:=aJ.j3 x.aK[i]
   (repeat(with_reducible refine And.intro ?_ ?_;focus first|omega|rfl|assumption|exact⟨_,rfl,rfl⟩|(simp;omega)|(simp;done)))
   with_reducible refine aA (fun hb=> ?_) (fun hb=> ?_)<;>have h:=hb<;>(try simp only[wf_preprocess] at h)<;>simp -implicitDefEqProofs (disch:=omega) only[go_sem,hb]<;>(repeat(with_reducible refine And.intro ?_ ?_;focus first|omega|rfl|assumption|exact⟨_,rfl,rfl⟩|(simp;omega)|(simp;done)))
   ·exact aD (aL (fun e=>h (by simp only[e]))).symm
   have k1:=h
   (repeat(with_reducible refine And.intro ?_ ?_;focus first|omega|rfl|assumption|exact⟨_,rfl,rfl⟩|(simp;omega)|(simp;done)))
   refine ay (OV x.aK[i].aN y.aK[i].aN (by omega)) ?_
   simp -implicitDefEqProofs (disch:=omega) only[go_sem]<;>(repeat(with_reducible refine And.intro ?_ ?_;focus first|omega|rfl|assumption|exact⟨_,rfl,rfl⟩|(simp;omega)|(simp;done)))
   with_reducible refine aA (fun hb=> ?_) (fun hb=> ?_)<;>have h:=hb<;>(try simp only[wf_preprocess] at h)<;>simp -implicitDefEqProofs (disch:=omega) only[go_sem,hb]<;>(repeat(with_reducible refine And.intro ?_ ?_;focus first|omega|rfl|assumption|exact⟨_,rfl,rfl⟩|(simp;omega)|(simp;done)))
   ·exact aD (aL (fun e=>h (by simp only[e]))).symm
   have k2:=h
   (repeat(with_reducible refine And.intro ?_ ?_;focus first|omega|rfl|assumption|exact⟨_,rfl,rfl⟩|(simp;omega)|(simp;done)))
   refine ay (ih x.aK[i].fBody (by omega) y.aK[i].fBody (by omega)) ?_
   simp -implicitDefEqProofs (disch:=omega) only[go_sem]<;>(repeat(with_reducible refine And.intro ?_ ?_;focus first|omega|rfl|assumption|exact⟨_,rfl,rfl⟩|(simp;omega)|(simp;done)))
   with_reducible refine aA (fun hb=> ?_) (fun hb=> ?_)<;>have h:=hb<;>(try simp only[wf_preprocess] at h)<;>simp -implicitDefEqProofs (disch:=omega) only[go_sem,hb]<;>(repeat(with_reducible refine And.intro ?_ ?_;focus first|omega|rfl|assumption|exact⟨_,rfl,rfl⟩|(simp;omega)|(simp;done)))
   ·exact aD (aL (fun e=>h (by simp only[e]))).symm
   have k3:=h
   refine bI (i+1) (by omega) rfl rfl ⟨by omega,fun j hj=> ?_⟩
   by_cases e:j=i
   ·subst e
    rw[List.getElem?_eq_getElem hi,List.getElem?_eq_getElem hi',aJ.ext k1 k2 k3]
   ·exact p2 j (by omega)
  ·have hi:i=x.aK.length:=by omega
   have h9:x.aK=y.aK:=List.ext_getElem? fun j=>by
    by_cases hj:j<i
    ·exact p2 j hj
    ·rw[List.getElem?_eq_none (by omega),List.getElem?_eq_none (by omega)]
   exact aD (bC (au.ext h1 h2 h3 h4 h5 h8 h9)).symm
theorem Fw(x y:au)(h:x.sz≤4194304):aI Tryz.prog 341 [x.v,y.v] (.c (.d (.b (dec (x=y))))):=wP _ x (Nat.lt_succ_self _) y h
end Go.Proofs.YtlmhknhlmicmeaaGreatDoor
namespace Go.Proofs.YtlmhknhlmicmeaaGreatDoor
open Go Go.Ab
end Go.Proofs.YtlmhknhlmicmeaaGreatDoor
namespace Go.Ab
def zeroE:au:=.mk 0 [] [] 0 (.mk 0 [] []) [] []
def DT:List (List UInt8):=[[115,101,108,102]]
noncomputable def zU(vars:List (List UInt8))(e:au):Bool:=nA e&&among (iF e [] []) vars
noncomputable def rG(vars:List (List UInt8))(e:au):Bool:=iR vars&&zU vars e
noncomputable def fF(g:aG):Bool:=
 validName g.fName&&(dec (g.aT.length≤4)&&(l9 DT g.aT&&(jB DT g.aW&&
  (if g.eB=true then dec (g.aN.length=g.aT.length+1)&&rG g.aN g.fBody else dec (g.aN.length=0)&&dec (g.fBody=zeroE)))))
theorem tq{xs:List aj}{t:aj}(h:t∈xs):t.sz≤bF (xs.map aj.enc):=dP (List.mem_map_of_mem h)
theorem aG.sum(x:aG):x.fName.length+(x.aT.length+bF (x.aT.map aj.enc))+x.aW.sz+(x.aN.length+bF (x.aN.map encS))+x.fBody.sz≤x.sz:=by
 simp only[aG.sz,aG.aH,bO,bN,D.sz,List.length_map,aj.dO,au.dO]
 omega
theorem dG.sum(x:dG):x.bB.length+x.fType.sz≤x.sz:=by
 simp only[dG.sz,dG.aH,bO,bN,D.sz,List.length_map,aj.dO]
 omega
theorem ND(e:au)(h:e.sz≤4194304):(iF e [] []).length≤1073741824:=by
 have h1:=qN e [] []
 have h2:=au.jR e
 simp at h1
 omega
end Go.Ab
namespace Go.Proofs.YtlmhknhlmicmeaaGreatDoor
open Go Go.Ab
theorem VI(vars:List (List UInt8))(e:au)(hv:vars.length≤1073741824)(hs:∀s∈vars,s.length≤4194304)(hsz:e.sz≤4194304):aI Tryz.prog 227 [.c (.d (.sl (vars.map encS))),e.v] (.c (.d (.b (rG vars e)))):=fun S=>by
 refine aF (rs:=[.tmp 4]) Tryz.checked.mixed Tryz.func227 Tryz.ntmps227 rfl rfl rfl rfl rfl ?_
 simp -implicitDefEqProofs (disch:=omega) only[go_sem]
 refine ay (zm vars hv hs) ?_
 simp -implicitDefEqProofs (disch:=omega) only[go_sem]<;>(repeat(with_reducible refine And.intro ?_ ?_;focus first|omega|rfl|assumption|exact⟨_,rfl,rfl⟩|(simp;omega)|(simp;done)))
 with_reducible refine aA (fun hb=> ?_) (fun hb=> ?_)<;>have h:=hb<;>(try simp only[wf_preprocess] at h)<;>simp -implicitDefEqProofs (disch:=omega) only[go_sem,hb]<;>(repeat(with_reducible refine And.intro ?_ ?_;focus first|omega|rfl|assumption|exact⟨_,rfl,rfl⟩|(simp;omega)|(simp;done)))
 ·have h1:=h
  refine ay (Fh e hsz) ?_
  simp -implicitDefEqProofs (disch:=omega) only[go_sem]<;>(repeat(with_reducible refine And.intro ?_ ?_;focus first|omega|rfl|assumption|exact⟨_,rfl,rfl⟩|(simp;omega)|(simp;done)))
  with_reducible refine aA (fun hb=> ?_) (fun hb=> ?_)<;>have h:=hb<;>(try simp only[wf_preprocess] at h)<;>simp -implicitDefEqProofs (disch:=omega) only[go_sem,hb]<;>(repeat(with_reducible refine And.intro ?_ ?_;focus first|omega|rfl|assumption|exact⟨_,rfl,rfl⟩|(simp;omega)|(simp;done)))
  ·have h2:=h
   refine ay (H7 e hsz) ?_
   simp -implicitDefEqProofs (disch:=omega) only[go_sem]<;>(repeat(with_reducible refine And.intro ?_ ?_;focus first|omega|rfl|assumption|exact⟨_,rfl,rfl⟩|(simp;omega)|(simp;done)))
   refine ay (Ev _ vars (ND e hsz) hv) ?_
   simp -implicitDefEqProofs (disch:=omega) only[go_sem]<;>(repeat(with_reducible refine And.intro ?_ ?_;focus first|omega|rfl|assumption|exact⟨_,rfl,rfl⟩|(simp;omega)|(simp;done)))
   exact aD (by unfold rG zU;rw[h1,h2];rfl)
  ·exact aD (by unfold rG zU;rw[h];simp)
 ·exact aD (by unfold rG;rw[h];rfl)
theorem Td(vars:List (List UInt8))(e:au)(hv:vars.length≤1073741824)(hsz:e.sz≤4194304):aI Tryz.prog 255 [e.v,.c (.d (.sl (vars.map encS)))] (.c (.d (.b (zU vars e)))):=fun S=>by
 have hlen:=ND e hsz
 refine aF (rs:=[.tmp 4]) Tryz.checked.mixed Tryz.func255 Tryz.ntmps255 rfl rfl rfl rfl rfl ?_
 simp -implicitDefEqProofs (disch:=omega) only[go_sem]
 refine ay (H8 e hsz) ?_
 simp -implicitDefEqProofs (disch:=omega) only[go_sem]<;>(repeat(with_reducible refine And.intro ?_ ?_;focus first|omega|rfl|assumption|exact⟨_,rfl,rfl⟩|(simp;omega)|(simp;done)))
 unfold zU
 generalize iF e [] []=xs at hlen ⊢
 refine aX (ι:=Nat) Tryz.checked.mixed rfl [1,2,5,6] (fun i=>[.c (.d (.sl (vars.map encS))),.c (.ptr (0,0) 0),.c (.d (.sl (xs.map encS))),.c (.d (.i .i64 i))]) (fun _=>[.box (e.enc.map .d)]::S)
  (fun i=>i≤xs.length∧among (xs.drop i) vars=among xs vars) (fun i=>xs.length-i) 0 rfl ?_ ⟨Nat.zero_le _,rfl⟩ ?_
 ·simp -implicitDefEqProofs (disch:=omega) only[go_sem]
 rintro i ⟨p1,p2⟩
 simp -implicitDefEqProofs (disch:=omega) only[go_sem,encS]
 with_reducible refine aA (fun hb=> ?_) (fun hb=> ?_)<;>have h:=hb<;>(try simp only[wf_preprocess] at h)<;>simp -implicitDefEqProofs (disch:=omega) only[go_sem,hb,encS]<;>(repeat(with_reducible refine And.intro ?_ ?_;focus first|omega|rfl|assumption|exact⟨_,rfl,rfl⟩|(simp;omega)|(simp;done)))
 ·have hi:i<xs.length:=by omega
  rw[List.drop_eq_getElem_cons hi] at p2
  have p3:among xs vars=(dec (xs[i]∈vars)&&among (xs.drop (i+1)) vars):=p2.symm
  (repeat(with_reducible refine And.intro ?_ ?_;focus first|omega|rfl|assumption|exact⟨_,rfl,rfl⟩|(simp;omega)|(simp;done)))
  refine ay (nI vars xs[i] hv) ?_
  simp -implicitDefEqProofs (disch:=omega) only[go_sem]<;>(repeat(with_reducible refine And.intro ?_ ?_;focus first|omega|rfl|assumption|exact⟨_,rfl,rfl⟩|(simp;omega)|(simp;done)))
  with_reducible refine aA (fun hb=> ?_) (fun hb=> ?_)<;>have h:=hb<;>(try simp only[wf_preprocess] at h)<;>simp -implicitDefEqProofs (disch:=omega) only[go_sem,hb]<;>(repeat(with_reducible refine And.intro ?_ ?_;focus first|omega|rfl|assumption|exact⟨_,rfl,rfl⟩|(simp;omega)|(simp;done)))
  ·exact aD (by rw[p3,aL h];simp)
  ·exact bI (i+1) (by omega) rfl rfl ⟨by omega,by rw[p3,bC h];rfl⟩
 ·rw[List.drop_of_length_le (by omega)] at p2
  have p3:among xs vars=true:=p2.symm
  (repeat(with_reducible refine And.intro ?_ ?_;focus first|omega|rfl|assumption|exact⟨_,rfl,rfl⟩|(simp;omega)|(simp;done)))
  refine ay (Fj e hsz) ?_
  simp -implicitDefEqProofs (disch:=omega) only[go_sem]<;>(repeat(with_reducible refine And.intro ?_ ?_;focus first|omega|rfl|assumption|exact⟨_,rfl,rfl⟩|(simp;omega)|(simp;done)))
  exact aD (by rw[p3];simp)
theorem KH(e:au)(hsz:e.sz≤4194304):aI Tryz.prog 297 [e.v] (.c (.d (.b (dec (e=zeroE))))):=fun S=>by
 refine aF (rs:=[.tmp 2]) Tryz.checked.mixed Tryz.func297 Tryz.ntmps297 rfl rfl rfl rfl rfl ?_
 simp -implicitDefEqProofs (disch:=omega) only[go_sem]
 refine ay (Fv e zeroE hsz) ?_
 simp -implicitDefEqProofs (disch:=omega) only[go_sem]
theorem Te(e:au)(hsz:e.sz≤4194304):aI Tryz.prog 307 [e.v] (.c (.d (.b (dec (e=zeroE))))):=fun S=>by
 refine aF (rs:=[.tmp 2]) Tryz.checked.mixed Tryz.func307 Tryz.ntmps307 rfl rfl rfl rfl rfl ?_
 simp -implicitDefEqProofs (disch:=omega) only[go_sem]
 refine ay (Fw e zeroE hsz) ?_
 simp -implicitDefEqProofs (disch:=omega) only[go_sem]
theorem Jc(g:aG)(hsz:g.sz≤4194304):aI Tryz.prog 232 [g.v] (.c (.d (.b (fF g)))):=fun S=>by
 have hs:=aG.sum g
 have hT:∀t∈g.aT,t.sz≤4194304:=fun t ht=>by have:=tq ht;omega
 have hV:∀s∈g.aN,s.length≤4194304:=fun s h=>by have:=zN h;omega
 refine aF (rs:=[.tmp 2]) Tryz.checked.mixed Tryz.func232 Tryz.ntmps232 rfl rfl rfl rfl rfl ?_
 simp -implicitDefEqProofs (disch:=omega) only[go_sem]
 refine ay (jy g.fName (by omega)) ?_
 simp -implicitDefEqProofs (disch:=omega) only[go_sem]<;>(repeat(with_reducible refine And.intro ?_ ?_;focus first|omega|rfl|assumption|exact⟨_,rfl,rfl⟩|(simp;omega)|(simp;done)))
 with_reducible refine aA (fun hb=> ?_) (fun hb=> ?_)<;>have h:=hb<;>(try simp only[wf_preprocess] at h)<;>simp -implicitDefEqProofs (disch:=omega) only[go_sem,hb]<;>(repeat(with_reducible refine And.intro ?_ ?_;focus first|omega|rfl|assumption|exact⟨_,rfl,rfl⟩|(simp;omega)|(simp;done)))
 ·exact aD (by unfold fF;rw[h];rfl)
 have h1:=h
 with_reducible refine aA (fun hb=> ?_) (fun hb=> ?_)<;>have h:=hb<;>(try simp only[wf_preprocess] at h)<;>simp -implicitDefEqProofs (disch:=omega) only[go_sem,hb]<;>(repeat(with_reducible refine And.intro ?_ ?_;focus first|omega|rfl|assumption|exact⟨_,rfl,rfl⟩|(simp;omega)|(simp;done)))
 ·exact aD (by unfold fF;rw[aL (show ¬g.aT.length≤4 by omega)];simp)
 have h2:=h
 (repeat(with_reducible refine And.intro ?_ ?_;focus first|omega|rfl|assumption|exact⟨_,rfl,rfl⟩|(simp;omega)|(simp;done)))
 refine ay (GQ g.aT DT (by omega) hT (by decide)) ?_
 simp -implicitDefEqProofs (disch:=omega) only[go_sem]
 with_reducible refine aA (fun hb=> ?_) (fun hb=> ?_)<;>have h:=hb<;>(try simp only[wf_preprocess] at h)<;>simp -implicitDefEqProofs (disch:=omega) only[go_sem,hb]<;>(repeat(with_reducible refine And.intro ?_ ?_;focus first|omega|rfl|assumption|exact⟨_,rfl,rfl⟩|(simp;omega)|(simp;done)))
 ·exact aD (by unfold fF;rw[h];simp)
 have h3:=h
 (repeat(with_reducible refine And.intro ?_ ?_;focus first|omega|rfl|assumption|exact⟨_,rfl,rfl⟩|(simp;omega)|(simp;done)))
 refine ay (BA g.aW DT (by omega) (by decide)) ?_
 simp -implicitDefEqProofs (disch:=omega) only[go_sem]
 with_reducible refine aA (fun hb=> ?_) (fun hb=> ?_)<;>have h:=hb<;>(try simp only[wf_preprocess] at h)<;>simp -implicitDefEqProofs (disch:=omega) only[go_sem,hb]<;>(repeat(with_reducible refine And.intro ?_ ?_;focus first|omega|rfl|assumption|exact⟨_,rfl,rfl⟩|(simp;omega)|(simp;done)))
 ·exact aD (by unfold fF;rw[h];simp)
 have h4:=h
 with_reducible refine aA (fun hb=> ?_) (fun hb=> ?_)<;>have h:=hb<;>(try simp only[wf_preprocess] at h)<;>simp -implicitDefEqProofs (disch:=omega) only[go_sem,hb]<;>(repeat(with_reducible refine And.intro ?_ ?_;focus first|omega|rfl|assumption|exact⟨_,rfl,rfl⟩|(simp;omega)|(simp;done)))
 ·have h5:=h
  with_reducible refine aA (fun hb=> ?_) (fun hb=> ?_)<;>have h:=hb<;>(try simp only[wf_preprocess] at h)<;>simp -implicitDefEqProofs (disch:=omega) only[go_sem,hb]<;>(repeat(with_reducible refine And.intro ?_ ?_;focus first|omega|rfl|assumption|exact⟨_,rfl,rfl⟩|(simp;omega)|(simp;done)))
  ·have h6:=h
   refine ay (VI g.aN g.fBody (by omega) hV (by omega)) ?_
   simp -implicitDefEqProofs (disch:=omega) only[go_sem]<;>(repeat(with_reducible refine And.intro ?_ ?_;focus first|omega|rfl|assumption|exact⟨_,rfl,rfl⟩|(simp;omega)|(simp;done)))
   exact aD (by unfold fF;rw[h1,h3,h4,if_pos h5,bC (show g.aT.length≤4 by omega),bC (show g.aN.length=g.aT.length+1 by omega)];rfl)
  ·exact aD (by unfold fF;rw[if_pos h5,aL (show ¬g.aN.length=g.aT.length+1 by omega)];simp)
 ·have h5:¬g.eB=true:=by rw[h];simp
  with_reducible refine aA (fun hb=> ?_) (fun hb=> ?_)<;>have h:=hb<;>(try simp only[wf_preprocess] at h)<;>simp -implicitDefEqProofs (disch:=omega) only[go_sem,hb]<;>(repeat(with_reducible refine And.intro ?_ ?_;focus first|omega|rfl|assumption|exact⟨_,rfl,rfl⟩|(simp;omega)|(simp;done)))
  ·refine ay (KH g.fBody (by omega)) ?_
   simp -implicitDefEqProofs (disch:=omega) only[go_sem]<;>(repeat(with_reducible refine And.intro ?_ ?_;focus first|omega|rfl|assumption|exact⟨_,rfl,rfl⟩|(simp;omega)|(simp;done)))
   exact aD (by unfold fF;rw[h1,h3,h4,if_neg h5,bC (show g.aT.length≤4 by omega),bC (show g.aN.length=0 by omega)];rfl)
  ·exact aD (by unfold fF;rw[if_neg h5,aL (show ¬g.aN.length=0 by omega)];simp)
theorem VJ(g:aG)(hsz:g.sz≤4194304):aI Tryz.prog 248 [g.v] (.c (.d (.b (fF g)))):=fun S=>by
 have hs:=aG.sum g
 have hT:∀t∈g.aT,t.sz≤4194304:=fun t ht=>by have:=tq ht;omega
 have hV:∀s∈g.aN,s.length≤4194304:=fun s h=>by have:=zN h;omega
 refine aF (rs:=[.tmp 2]) Tryz.checked.mixed Tryz.func248 Tryz.ntmps248 rfl rfl rfl rfl rfl ?_
 simp -implicitDefEqProofs (disch:=omega) only[go_sem]
 refine ay (jA g.fName (by omega)) ?_
 simp -implicitDefEqProofs (disch:=omega) only[go_sem]<;>(repeat(with_reducible refine And.intro ?_ ?_;focus first|omega|rfl|assumption|exact⟨_,rfl,rfl⟩|(simp;omega)|(simp;done)))
 with_reducible refine aA (fun hb=> ?_) (fun hb=> ?_)<;>have h:=hb<;>(try simp only[wf_preprocess] at h)<;>simp -implicitDefEqProofs (disch:=omega) only[go_sem,hb]<;>(repeat(with_reducible refine And.intro ?_ ?_;focus first|omega|rfl|assumption|exact⟨_,rfl,rfl⟩|(simp;omega)|(simp;done)))
 ·exact aD (by unfold fF;rw[h];rfl)
 have h1:=h
 with_reducible refine aA (fun hb=> ?_) (fun hb=> ?_)<;>have h:=hb<;>(try simp only[wf_preprocess] at h)<;>simp -implicitDefEqProofs (disch:=omega) only[go_sem,hb]<;>(repeat(with_reducible refine And.intro ?_ ?_;focus first|omega|rfl|assumption|exact⟨_,rfl,rfl⟩|(simp;omega)|(simp;done)))
 ·exact aD (by unfold fF;rw[aL (show ¬g.aT.length≤4 by omega)];simp)
 have h2:=h
 (repeat(with_reducible refine And.intro ?_ ?_;focus first|omega|rfl|assumption|exact⟨_,rfl,rfl⟩|(simp;omega)|(simp;done)))
 refine ay (U9 g.aT DT (by omega) hT (by decide)) ?_
 simp -implicitDefEqProofs (disch:=omega) only[go_sem]
 with_reducible refine aA (fun hb=> ?_) (fun hb=> ?_)<;>have h:=hb<;>(try simp only[wf_preprocess] at h)<;>simp -implicitDefEqProofs (disch:=omega) only[go_sem,hb]<;>(repeat(with_reducible refine And.intro ?_ ?_;focus first|omega|rfl|assumption|exact⟨_,rfl,rfl⟩|(simp;omega)|(simp;done)))
 ·exact aD (by unfold fF;rw[h];simp)
 have h3:=h
 (repeat(with_reducible refine And.intro ?_ ?_;focus first|omega|rfl|assumption|exact⟨_,rfl,rfl⟩|(simp;omega)|(simp;done)))
 refine ay (GR g.aW DT (by omega) (by decide)) ?_
 simp -implicitDefEqProofs (disch:=omega) only[go_sem]
 with_reducible refine aA (fun hb=> ?_) (fun hb=> ?_)<;>have h:=hb<;>(try simp only[wf_preprocess] at h)<;>simp -implicitDefEqProofs (disch:=omega) only[go_sem,hb]<;>(repeat(with_reducible refine And.intro ?_ ?_;focus first|omega|rfl|assumption|exact⟨_,rfl,rfl⟩|(simp;omega)|(simp;done)))
 ·exact aD (by unfold fF;rw[h];simp)
 have h4:=h
 with_reducible refine aA (fun hb=> ?_) (fun hb=> ?_)<;>have h:=hb<;>(try simp only[wf_preprocess] at h)<;>simp -implicitDefEqProofs (disch:=omega) only[go_sem,hb]<;>(repeat(with_reducible refine And.intro ?_ ?_;focus first|omega|rfl|assumption|exact⟨_,rfl,rfl⟩|(simp;omega)|(simp;done)))
 ·have h5:¬g.eB=true:=by rw[h];simp
  with_reducible refine aA (fun hb=> ?_) (fun hb=> ?_)<;>have h:=hb<;>(try simp only[wf_preprocess] at h)<;>simp -implicitDefEqProofs (disch:=omega) only[go_sem,hb]<;>(repeat(with_reducible refine And.intro ?_ ?_;focus first|omega|rfl|assumption|exact⟨_,rfl,rfl⟩|(simp;omega)|(simp;done)))
  ·refine ay (Te g.fBody (by omega)) ?_
   simp -implicitDefEqProofs (disch:=omega) only[go_sem]<;>(repeat(with_reducible refine And.intro ?_ ?_;focus first|omega|rfl|assumption|exact⟨_,rfl,rfl⟩|(simp;omega)|(simp;done)))
   exact aD (by unfold fF;rw[h1,h3,h4,if_neg h5,bC (show g.aT.length≤4 by omega),bC (show g.aN.length=0 by omega)];rfl)
  ·exact aD (by unfold fF;rw[if_neg h5,aL (show ¬g.aN.length=0 by omega)];simp)
 ·have h5:=h
  refine ay (zn g.aN 5 (by omega) hV) ?_
  simp -implicitDefEqProofs (disch:=omega) only[go_sem]<;>(repeat(with_reducible refine And.intro ?_ ?_;focus first|omega|rfl|assumption|exact⟨_,rfl,rfl⟩|(simp;omega)|(simp;done)))
  with_reducible refine aA (fun hb=> ?_) (fun hb=> ?_)<;>have h:=hb<;>(try simp only[wf_preprocess] at h)<;>simp -implicitDefEqProofs (disch:=omega) only[go_sem,hb]<;>(repeat(with_reducible refine And.intro ?_ ?_;focus first|omega|rfl|assumption|exact⟨_,rfl,rfl⟩|(simp;omega)|(simp;done)))
  ·have h6:=h
   rw[Bool.and_eq_true] at h6
   with_reducible refine aA (fun hb=> ?_) (fun hb=> ?_)<;>have h:=hb<;>(try simp only[wf_preprocess] at h)<;>simp -implicitDefEqProofs (disch:=omega) only[go_sem,hb]<;>(repeat(with_reducible refine And.intro ?_ ?_;focus first|omega|rfl|assumption|exact⟨_,rfl,rfl⟩|(simp;omega)|(simp;done)))
   ·refine ay (Td g.aN g.fBody (by omega) (by omega)) ?_
    simp -implicitDefEqProofs (disch:=omega) only[go_sem]<;>(repeat(with_reducible refine And.intro ?_ ?_;focus first|omega|rfl|assumption|exact⟨_,rfl,rfl⟩|(simp;omega)|(simp;done)))
    exact aD (by unfold fF rG;rw[h1,h3,h4,if_pos h5,h6.2,bC (show g.aT.length≤4 by omega),bC (show g.aN.length=g.aT.length+1 by omega)];rfl)
   ·exact aD (by unfold fF;rw[if_pos h5,aL (show ¬g.aN.length=g.aT.length+1 by omega)];simp)
  ·refine aD ?_
   by_cases h7:g.aN.length=g.aT.length+1
   ·rw[bC (by omega),Bool.true_and] at h
    unfold fF rG;rw[if_pos h5,h];simp
   ·unfold fF;rw[if_pos h5,aL h7];simp
end Go.Proofs.YtlmhknhlmicmeaaGreatDoor
namespace Go.Proofs.YtlmhknhlmicmeaaGreatDoor
open Go Go.Ab
end Go.Proofs.YtlmhknhlmicmeaaGreatDoor
namespace Go.Proofs.YtlmhknhlmicmeaaGreatDoor
open Go Go.Ab
end Go.Proofs.YtlmhknhlmicmeaaGreatDoor
namespace Go.Proofs.YtlmhknhlmicmeaaGreatDoor
open Go Go.Ab
end Go.Proofs.YtlmhknhlmicmeaaGreatDoor
namespace Go.Proofs.YtlmhknhlmicmeaaGreatDoor
open Go Go.Ab
end Go.Proofs.YtlmhknhlmicmeaaGreatDoor
namespace Go.Ab
theorem bT.sum(x:bT):x.fName.length+(x.aN.length+bF (x.aN.map encS))+(x.jg.length+bF (x.jg.map dG.enc))+(x.aT.length+bF (x.aT.map dU.enc))+x.aW.sz+x.fBody.sz≤x.sz:=by
 simp only[bT.sz,bT.aH,bO,bN,D.sz,List.length_map,aj.dO,au.dO]
 omega
theorem dU.sum(x:dU):x.fName.length+x.fType.sz≤x.sz:=by
 simp only[dU.sz,dU.aH,bO,bN,D.sz,List.length_map,aj.dO]
 omega
end Go.Ab
namespace Go.Proofs.YtlmhknhlmicmeaaGreatDoor
open Go Go.Ab
end Go.Proofs.YtlmhknhlmicmeaaGreatDoor
namespace Go.Ab
def NG(n:Nat)(s:St):St:=match s.st with
 |(.seed _::own)::Ω=>⟨s.tm,(.seed n::own)::Ω⟩
 |_=>s
theorem Pn{n m:Nat}{tm:List (Nat×V)}{own:List Obj}{Ω:Store}:NG n ⟨tm,(.seed m::own)::Ω⟩=⟨tm,(.seed n::own)::Ω⟩:=rfl
def aeb(j p n:Nat)(s:St):St:=NG n (KU j p s)
attribute [go_sem] aeb Pn
theorem H9{vars:List (List UInt8)}{t:aj}(h:jB vars t=true):formed t=true:=by
 unfold jB at h
 rw[Bool.and_eq_true] at h
 exact tX h.1
theorem VK{vars:List (List UInt8)}{e:au}(h:rG vars e=true):gK e=true:=by
 unfold rG zU at h
 simp only[Bool.and_eq_true] at h
 exact Nz h.2.1
end Go.Ab
namespace Go.Proofs.YtlmhknhlmicmeaaGreatDoor
open Go Go.Ab
end Go.Proofs.YtlmhknhlmicmeaaGreatDoor
namespace Go.Ab
abbrev gX (l:List ah) (i:Nat):ah:=l.getD i fC
theorem NH(l:List ah):dR l=(gX l 0).sz+dR (l.drop 1):=by
 cases l with
 |nil=>simp[dR,gX,E5]
 |cons x l=>rw[dR,List.drop_succ_cons,List.drop_zero];rfl
theorem Ql(l:List ah)(k i:Nat):gX (l.drop k) i=gX l (k+i):=by
 simp[gX,List.getD_eq_getElem?_getD,List.getElem?_drop]
theorem Dg(l:List ah):dR l=(gX l 0).sz+(gX l 1).sz+(gX l 2).sz+(gX l 3).sz+(gX l 4).sz+(gX l 5).sz+(gX l 6).sz+dR (l.drop 7):=by
 have h:∀k,dR (l.drop k)=(gX l k).sz+dR (l.drop (k+1)):=fun k=>by
  rw[NH (l.drop k),Ql,Nat.add_zero,List.drop_drop]
 have h0:=h 0
 rw[List.drop_zero] at h0
 have h1:=h 1;have h2:=h 2;have h3:=h 3;have h4:=h 4;have h5:=h 5;have h6:=h 6
 simp only[Nat.reduceAdd] at *
 omega
theorem Yu(l:List ah):dR l=(gX l 0).sz+(gX l 1).sz+(gX l 2).sz+(gX l 3).sz+dR (l.drop 4):=by
 have h:=Dg l
 have h1:=Dg (l.drop 4)
 have e:∀k,dR (l.drop k)=(gX l k).sz+dR (l.drop (k+1)):=fun k=>by
  rw[NH (l.drop k),Ql,Nat.add_zero,List.drop_drop]
 have h4:=e 4;have h5:=e 5;have h6:=e 6
 simp only[Nat.reduceAdd] at *
 omega
theorem Tf(l:List ah)(i:Nat):cB l i=(gX l i).aV:=rfl
theorem Fx(x:ah):x.aV.length+(x.ak.length+dR x.ak)=x.sz:=by rw[jK,lQ]
theorem abQ{α:Type}{x:ah}{dT dF:α}{valid:α→Bool}{sx:α→ah}{head:Prop}(hx:x.ak≠[])(hd:∀a,valid a=true→sx a=x→dT=a∧dF=a)(hh:∀a,sx a=x→head):
 dec (jh x=true∧head∧valid dT=true∧sx dT=x)=(jh x&&dec (zi (valid dF) (sx dF)=x)):=by
 cases hv:jh x with
 |false=>exact aL fun h=>by cases h.1
 |true=>
  rw[Bool.true_and]
  refine iq ⟨fun⟨_,h2,h3,h4⟩=> ?_,fun h=> ?_⟩
  ·have e:=(hd _ h3 h4).2
   rw[e,h3,h4,zi,Ej,if_pos hv]
  ·obtain⟨h1,h2,_⟩:=Yk h hx
   have e:=(hd _ h1 h2).1
   rw[e]
   exact⟨rfl,hh _ h2,h1,h2⟩
def uS(l:List ah)(i:Nat):List (List UInt8):=fu (gX l i).ak
theorem Yv{α β:Type}{f:α→β}{g:β→α}{l:List α}(h:∀a∈l,g (f a)=a):(l.map f).map g=l:=by
 rw[List.map_map,show l.map (g∘f)=l.map id from List.map_congr_left (fun c hc=>h c hc),List.map_id]
end Go.Ab
namespace Go.Ab
theorem pX(n:Nat):Hl (.sl []) (.ol n []):=fun w σ v h=>by
 cases h with
 |nil a cap=>exact .qm n a cap
 |sl b off cap aQ es vals c t fz hcap hlen hb hσ hc hv=>exact .qm n _ _
theorem Hl.trans{a b c:D}(h:Hl a b)(k:Hl b c):Hl a c:=fun w σ v x=>k w σ v (h w σ v x)
theorem jY.trans:∀{a b c:List D},jY a b→jY b c→jY a c
 |_,_,_,.nil,.nil=>.nil
 |_,_,_,.cons x h,.cons y k=>.cons (x.trans y) (h.trans k)
theorem gW.trans:∀{a b c:List (List D)},gW a b→gW b c→gW a c
 |_,_,_,.nil,.nil=>.nil
 |_,_,_,.cons x h,.cons y k=>.cons (x.trans y) (h.trans k)
theorem gW.at{a b:List (List D)}(h:gW a b):∀(i:Nat) (hi:i<b.length) (hi':i<a.length),jY a[i] b[i]:=by
 induction h with
 |nil=>intro i hi;simp at hi
 |cons x h ih=>intro i hi hi';cases i with
  |zero=>exact x
  |succ i=>exact ih i (by simpa using hi) (by simpa using hi')
theorem gW.afU{a b:List (List D)}(h:gW a b){n:Nat}{w:World}{σ:Nat→Nat}{v:Value}(hr:bU w σ (.ol n a) v):bU w σ (.ol n b) v:=by
 cases hr with
 |qm _ ad cap=>
  cases h
  exact .qm n ad cap
 |ol _ b0 off cap aQ es vals c t hcap hlen hb hσ hfit hc hv=>
  have hl:=h.length
  rw[hl] at hcap hfit hc ⊢
  have hlb:∀e∈b,e.length=aQ:=fun e he=>by
   obtain⟨i,hi,rfl⟩:=List.getElem_of_mem he
   have h1:=h.at i hi (by omega)
   rw[←h1.length];exact hlen _ (List.getElem_mem _)
  refine .ol n b0 off cap aQ b vals c t hcap hlb hb hσ hfit hc fun j d hd=> ?_
  obtain⟨x,hx,hle⟩:=h.flat.at j d hd
  exact hle w σ _ (hv j x hx)
theorem Tg{n:Nat}{a b:List (List D)}(h:gW a b):oo (.d (.ol n a)) (.d (.ol n b)):=fun w σ S β v hr=>h.afU hr
theorem oo.trans{a b c:C}(h:oo a b)(k:oo b c):oo a c:=fun w σ S β v x=>k w σ S β v (h w σ S β v x)
end Go.Ab
namespace Go.Ab
theorem uj{l:List ah}{i:Nat}(h:i<l.length):gX l i=l[i]:=by
 show l.getD i fC=_
 rw[List.getD_eq_getElem?_getD,List.getElem?_eq_getElem h];rfl
def lB(l:List dG)(n:Nat):List (List D):=eX (l.map dG.enc) n
def lPr(l:List dU)(n:Nat):List (List D):=eX (l.map dU.enc) n
theorem Po{α:Type}{e:α→List D}{l:List α}{i:Nat}(hi:i<l.length)(n:Nat):eX ((l.take i).map e) n++[eH (e l[i]) (n+jU ((l.take i).map e))]=eX ((l.take (i+1)).map e) n:=by
 rw[List.take_succ_eq_append_getElem hi,List.map_append,nW];rfl
theorem Ti{α:Type}{e:α→List D}{l:List α}{i:Nat}(hi:i<l.length):(l.take i).map e++[e l[i]]=(l.take (i+1)).map e:=by
 rw[List.take_succ_eq_append_getElem hi,List.map_append];rfl
theorem aau{x:ah}(h:gY x=true){i:Nat}(hi:i<x.ak.length):gY x.ak[i]=true:=rZ (C8 h (fun e=>by rw[e] at hi;simp at hi)) (List.getElem_mem hi)
theorem Ia(x:ah){i:Nat}(hi:i<x.ak.length):x.ak[i].sz≤x.sz:=by
 have:=j4 (List.getElem_mem hi)
 have:=gL x
 omega
abbrev bT.cl (x:bT) (n p q r:Nat):List C:=[.d (.s x.fName),.d (.ol n (x.aN.map encS)),.d (.ol (n+1) (lB x.jg (n+1+1))),.d (.ol p (lPr x.aT (p+1))),.d (.i .i64 x.aW.aM),.d (.s x.aW.fName),.d (.ol q (lt x.aW.fArgs (q+1))),
 .d (.i .i64 x.fBody.aM),.d (.s x.fBody.bB),.d (.s x.fBody.fName),.d (.i .i64 x.fBody.fN),.d (.i .i64 x.fBody.fType.aM),.d (.s x.fBody.fType.fName),.d (.ol r (lt x.fBody.fType.fArgs (r+1))),
 .d (.ol (r+(fU x.fBody.fType.fArgs+1)) (lE x.fBody.fArgs (r+(fU x.fBody.fType.fArgs+1)+1))),.d (.ol (r+(fU x.fBody.fType.fArgs+1)+(lJ x.fBody.fArgs+1)) (lM x.fBody.aK (r+(fU x.fBody.fType.fArgs+1)+(lJ x.fBody.fArgs+1)+1)))]
abbrev bT.cv (x:bT):List C:=[.d (.s x.fName),.d (.sl (x.aN.map encS)),.d (.sl (x.jg.map dG.enc)),.d (.sl (x.aT.map dU.enc)),.d (.i .i64 x.aW.aM),.d (.s x.aW.fName),.d (.sl (x.aW.fArgs.map aj.enc)),
 .d (.i .i64 x.fBody.aM),.d (.s x.fBody.bB),.d (.s x.fBody.fName),.d (.i .i64 x.fBody.fN),.d (.i .i64 x.fBody.fType.aM),.d (.s x.fBody.fType.fName),.d (.sl (x.fBody.fType.fArgs.map aj.enc)),.d (.sl (x.fBody.fArgs.map au.enc)),.d (.sl (x.fBody.aK.map aJ.enc))]
abbrev agD:List C:=[.d (.s []),.aO [],.aO [],.aO [],.d (.i .i64 0),.d (.s []),.aO [],.d (.i .i64 0),.d (.s []),.d (.s []),.d (.i .i64 0),.d (.i .i64 0),.d (.s []),.aO [],.aO [],.aO []]
end Go.Ab
namespace Go.Proofs.YtlmhknhlmicmeaaGreatDoor
open Go Go.Ab
end Go.Proofs.YtlmhknhlmicmeaaGreatDoor
namespace Go.Ab
noncomputable def iY(t:aZ):List (List UInt8):=t.aB.map aG.fName
noncomputable def qX(t:aZ):Prop:=t.iO=true∧(t.eO=true∨0<t.aB.length∨0<t.aR.length)
noncomputable def cK(t:aZ):Bool:=
 validName t.fName&&(dec (t.aR.length≤4)&&(iR t.aR&&(dec (t.aB.length≤6)&&(!dec (qX t)&&(t.aB.all fF&&dec (iY t).Nodup)))))
theorem aZ.sum(x:aZ):x.fName.length+(x.aR.length+bF (x.aR.map encS))+(x.aB.length+bF (x.aB.map aG.enc))≤x.sz:=by
 simp only[aZ.sz,aZ.aH,bO,bN,D.sz,List.length_map]
 omega
theorem tu{xs:List aG}{t:aG}(h:t∈xs):t.sz≤bF (xs.map aG.enc):=dP (List.mem_map_of_mem h)
theorem Tj{g:aG}(h:fF g=true):validName g.fName=true:=by
 unfold fF at h
 rw[Bool.and_eq_true] at h
 exact h.1
theorem Pp{t:aZ}(h:t.aB.all fF=true):(iY t).all validName=true:=by
 unfold iY
 rw[List.all_map]
 refine List.all_eq_true.2 fun g hg=>Tj (List.all_eq_true.1 h g hg)
end Go.Ab
namespace Go.Proofs.YtlmhknhlmicmeaaGreatDoor
open Go Go.Ab
theorem D6(t:aZ)(hsz:t.sz≤4194304):aI Tryz.prog 139 [t.v] (.c (.d (.b (cK t)))):=fun S=>by
 have hs:=aZ.sum t
 have hV:∀s∈t.aR,s.length≤4194304:=fun s h=>by have:=zN h;omega
 have hG:∀g∈t.aB,g.sz≤4194304:=fun g h=>by have:=tu h;omega
 refine(show Hold ((validName t.fName=true∧t.aR.length≤4∧iR t.aR=true∧t.aB.length≤6∧¬qX t)→ ?T)→_ from fun tail=> ?main) ?tp
 case' main=>
  refine aF (rs:=[.tmp 2]) Tryz.checked.mixed Tryz.func139 Tryz.ntmps139 rfl rfl rfl rfl rfl ?_
  simp -implicitDefEqProofs (disch:=omega) only[go_sem]
  refine ay (jy t.fName (by omega)) ?_
  simp -implicitDefEqProofs (disch:=omega) only[go_sem]<;>(repeat(with_reducible refine And.intro ?_ ?_;focus first|omega|rfl|assumption|exact⟨_,rfl,rfl⟩|(simp;omega)|(simp;done)))
  with_reducible refine aA (fun hb=> ?_) (fun hb=> ?_)<;>have h:=hb<;>(try simp only[wf_preprocess] at h)<;>simp -implicitDefEqProofs (disch:=omega) only[go_sem,hb]<;>(repeat(with_reducible refine And.intro ?_ ?_;focus first|omega|rfl|assumption|exact⟨_,rfl,rfl⟩|(simp;omega)|(simp;done)))
  ·exact aD (by unfold cK;rw[h];rfl)
  have h1:=h
  with_reducible refine aA (fun hb=> ?_) (fun hb=> ?_)<;>have h:=hb<;>(try simp only[wf_preprocess] at h)<;>simp -implicitDefEqProofs (disch:=omega) only[go_sem,hb]<;>(repeat(with_reducible refine And.intro ?_ ?_;focus first|omega|rfl|assumption|exact⟨_,rfl,rfl⟩|(simp;omega)|(simp;done)))
  ·exact aD (by unfold cK;rw[aL (show ¬t.aR.length≤4 by omega)];simp)
  have h2:=h
  (repeat(with_reducible refine And.intro ?_ ?_;focus first|omega|rfl|assumption|exact⟨_,rfl,rfl⟩|(simp;omega)|(simp;done)))
  refine ay (zm t.aR (by omega) hV) ?_
  simp -implicitDefEqProofs (disch:=omega) only[go_sem]<;>(repeat(with_reducible refine And.intro ?_ ?_;focus first|omega|rfl|assumption|exact⟨_,rfl,rfl⟩|(simp;omega)|(simp;done)))
  with_reducible refine aA (fun hb=> ?_) (fun hb=> ?_)<;>have h:=hb<;>(try simp only[wf_preprocess] at h)<;>simp -implicitDefEqProofs (disch:=omega) only[go_sem,hb]<;>(repeat(with_reducible refine And.intro ?_ ?_;focus first|omega|rfl|assumption|exact⟨_,rfl,rfl⟩|(simp;omega)|(simp;done)))
  ·exact aD (by unfold cK;rw[h];simp)
  have h3:=h
  with_reducible refine aA (fun hb=> ?_) (fun hb=> ?_)<;>have h:=hb<;>(try simp only[wf_preprocess] at h)<;>simp -implicitDefEqProofs (disch:=omega) only[go_sem,hb]<;>(repeat(with_reducible refine And.intro ?_ ?_;focus first|omega|rfl|assumption|exact⟨_,rfl,rfl⟩|(simp;omega)|(simp;done)))
  ·exact aD (by unfold cK;rw[aL (show ¬t.aB.length≤6 by omega)];simp)
  have h4:=h
  have bad:qX t→V.c (.d (.b false))=V.c (.d (.b (cK t))):=fun h=>aD (by unfold cK;rw[bC h];simp)
  have pre:¬qX t→(validName t.fName=true∧t.aR.length≤4∧iR t.aR=true∧t.aB.length≤6∧¬qX t):=fun h=>⟨h1,by omega,h3,by omega,h⟩
  repeat' (first|with_reducible refine aA (fun hb=> ?_) (fun hb=> ?_)<;>have h:=hb<;>(try simp only[wf_preprocess] at h)<;>simp -implicitDefEqProofs (disch:=omega) only[go_sem,hb]<;>(repeat(with_reducible refine And.intro ?_ ?_;focus first|omega|rfl|assumption|exact⟨_,rfl,rfl⟩|(simp;omega)|(simp;done))))
  all_goals first
   |(refine bad ⟨by assumption,?_⟩;first|exact .inl (by assumption)|exact .inr (.inl (by omega))|exact .inr (.inr (by omega)))
   |skip
  all_goals
   have na:¬qX t:=fun x=>by
    obtain⟨x1,x2⟩:=x
    rcases x2 with x2|x2|x2<;>first|omega|simp_all
   (repeat(with_reducible refine And.intro ?_ ?_;focus first|omega|rfl|assumption|exact⟨_,rfl,rfl⟩|(simp;omega)|(simp;done)))
   refine vJ 3 1 [] rfl (by simp) ?_
   refine AU (st':=[.box (t.enc.map .d),.tok 1 []]::S) [3,48,49,50] [.c (.bL (0,1) []),.c (.d (.sl (t.aB.map aG.enc))),.c (.d (.i .i64 t.aB.length)),.c (.d (.i .i64 0))] ?_ ?_ ?_
   ·rfl
   ·first|(simp -implicitDefEqProofs (disch:=omega) only[go_sem];done)|(simp -implicitDefEqProofs (disch:=omega) only[go_sem];simp[*])
   ·exact tail.out (pre na)
 refine⟨fun hp=> ?_⟩
 obtain⟨h1,h2,h3,h4,h5⟩:=hp
 have bad:∀i,∀hi:i<t.aB.length,fF t.aB[i]=false→cK t=false:=fun i hi h=>by
  have:t.aB.all fF=false:=Bool.eq_false_iff.2 fun hx=>by
   rw[List.all_eq_true.1 hx _ (List.getElem_mem hi)] at h;cases h
  unfold cK
  rw[this];simp
 refine aX (ι:=Nat×List (List UInt8)) Tryz.checked.mixed rfl [3,48,49,50] (fun y=>[.c (.bL (0,1) (y.2.map encS)),.c (.d (.sl (t.aB.map aG.enc))),.c (.d (.i .i64 t.aB.length)),.c (.d (.i .i64 y.1))]) (fun y=>[.box (t.enc.map .d),.tok 1 (y.2.map encS)]::S)
  (fun y=>y.1≤t.aB.length∧y.2=(iY t).take y.1∧∀j,∀hj:j<t.aB.length,j<y.1→fF t.aB[j]=true) (fun y=>t.aB.length-y.1) (0,[]) rfl ?_ ⟨Nat.zero_le _,rfl,fun j _ h=>by simp only at h;omega⟩ ?_
 ·simp -implicitDefEqProofs (disch:=omega) only[go_sem]
 rintro⟨i,names⟩ ⟨p1,p2,p3⟩
 simp only at p1 p2 p3
 have pl:names.length≤t.aB.length:=by rw[p2];simp[iY];omega
 simp -implicitDefEqProofs (disch:=omega) only[go_sem]
 with_reducible refine aA (fun hb=> ?_) (fun hb=> ?_)<;>have h:=hb<;>(try simp only[wf_preprocess] at h)<;>simp -implicitDefEqProofs (disch:=omega) only[go_sem,hb]<;>(repeat(with_reducible refine And.intro ?_ ?_;focus first|omega|rfl|assumption|exact⟨_,rfl,rfl⟩|(simp;omega)|(simp;done)))
 ·have hi:i<t.aB.length:=by omega
  (repeat(with_reducible refine And.intro ?_ ?_;focus first|omega|rfl|assumption|exact⟨_,rfl,rfl⟩|(simp;omega)|(simp;done)))
  refine ay (Jc t.aB[i] (hG _ (List.getElem_mem hi))) ?_
  simp -implicitDefEqProofs (disch:=omega) only[go_sem]<;>(repeat(with_reducible refine And.intro ?_ ?_;focus first|omega|rfl|assumption|exact⟨_,rfl,rfl⟩|(simp;omega)|(simp;done)))
  with_reducible refine aA (fun hb=> ?_) (fun hb=> ?_)<;>have h:=hb<;>(try simp only[wf_preprocess] at h)<;>simp -implicitDefEqProofs (disch:=omega) only[go_sem,hb]<;>(repeat(with_reducible refine And.intro ?_ ?_;focus first|omega|rfl|assumption|exact⟨_,rfl,rfl⟩|(simp;omega)|(simp;done)))
  ·rw[bad i hi h]
  have k2:=h
  (repeat(with_reducible refine And.intro ?_ ?_;focus first|omega|rfl|assumption|exact⟨_,rfl,rfl⟩|(simp;omega)|(simp;done)))
  rw[show List.map encS names++[[D.s t.aB[i].fName]]=List.map encS (names++[t.aB[i].fName]) by simp[encS]]
  exact dA 2 (by decide) (i+1,names++[t.aB[i].fName]) (by simp only;omega) rfl rfl rfl rfl ⟨by simp only;omega,by simp only;rw[p2,sU (by simpa [iY] using hi)];simp[iY],fun j hj hji=>by
   simp only at hji
   by_cases e:j=i
   ·subst e;exact k2
   ·exact p3 j hj (by omega)⟩
 have hi:i=t.aB.length:=by omega
 have hn:names=iY t:=by rw[p2,List.take_of_length_le (by simp[iY];omega)]
 have hall:t.aB.all fF=true:=List.all_eq_true.2 fun c hc=>by
  obtain⟨j,hj,e⟩:=List.getElem_of_mem hc
  rw[←e];exact p3 j hj (by omega)
 refine ay (yR names (by omega)) ?_
 simp -implicitDefEqProofs (disch:=omega) only[go_sem]<;>(repeat(with_reducible refine And.intro ?_ ?_;focus first|omega|rfl|assumption|exact⟨_,rfl,rfl⟩|(simp;omega)|(simp;done)))
 exact aD (by unfold cK;rw[h1,h3,hall,←hn,bC h2,bC h4,aL h5];simp)
theorem nQ(t:aZ)(hsz:t.sz≤4194304):aI Tryz.prog 157 [t.v] (.c (.d (.b (cK t)))):=fun S=>by
 have hs:=aZ.sum t
 have hV:∀s∈t.aR,s.length≤4194304:=fun s h=>by have:=zN h;omega
 have hG:∀g∈t.aB,g.sz≤4194304:=fun g h=>by have:=tu h;omega
 have bad:∀i,∀hi:i<t.aB.length,fF t.aB[i]=false→cK t=false:=fun i hi h=>by
  have:t.aB.all fF=false:=Bool.eq_false_iff.2 fun hx=>by
   rw[List.all_eq_true.1 hx _ (List.getElem_mem hi)] at h;cases h
  unfold cK
  rw[this];simp
 have afV:qX t→V.c (.d (.b false))=V.c (.d (.b (cK t))):=fun h=>aD (by unfold cK;rw[bC h];simp)
 refine aF (rs:=[.tmp 2]) Tryz.checked.mixed Tryz.func157 Tryz.ntmps157 rfl rfl rfl rfl rfl ?_
 simp -implicitDefEqProofs (disch:=omega) only[go_sem]
 (repeat(with_reducible refine And.intro ?_ ?_;focus first|omega|rfl|assumption|exact⟨_,rfl,rfl⟩|(simp;omega)|(simp;done)))
 refine vJ 3 1 [] rfl (by simp) ?_
 refine aX (ι:=Nat×List (List UInt8)) Tryz.checked.mixed rfl [1,3,4] (fun y=>[.c (.ptr (0,0) 0),.c (.bL (0,1) (y.2.map encS)),.c (.d (.i .i64 y.1))]) (fun y=>[.box (t.enc.map .d),.tok 1 (y.2.map encS)]::S)
  (fun y=>y.1≤t.aB.length∧y.2=(iY t).take y.1∧∀j,∀hj:j<t.aB.length,j<y.1→fF t.aB[j]=true) (fun y=>t.aB.length-y.1) (0,[]) rfl ?_ ⟨Nat.zero_le _,rfl,fun j _ h=>by simp only at h;omega⟩ ?_
 ·simp -implicitDefEqProofs (disch:=omega) only[go_sem]
 rintro⟨i,names⟩ ⟨p1,p2,p3⟩
 simp only at p1 p2 p3
 have pl:names.length≤t.aB.length:=by rw[p2];simp[iY];omega
 simp -implicitDefEqProofs (disch:=omega) only[go_sem]
 with_reducible refine aA (fun hb=> ?_) (fun hb=> ?_)<;>have h:=hb<;>(try simp only[wf_preprocess] at h)<;>simp -implicitDefEqProofs (disch:=omega) only[go_sem,hb]<;>(repeat(with_reducible refine And.intro ?_ ?_;focus first|omega|rfl|assumption|exact⟨_,rfl,rfl⟩|(simp;omega)|(simp;done)))
 ·have hi:i<t.aB.length:=by omega
  (repeat(with_reducible refine And.intro ?_ ?_;focus first|omega|rfl|assumption|exact⟨_,rfl,rfl⟩|(simp;omega)|(simp;done)))
  refine ay (VJ t.aB[i] (hG _ (List.getElem_mem hi))) ?_
  simp -implicitDefEqProofs (disch:=omega) only[go_sem]<;>(repeat(with_reducible refine And.intro ?_ ?_;focus first|omega|rfl|assumption|exact⟨_,rfl,rfl⟩|(simp;omega)|(simp;done)))
  with_reducible refine aA (fun hb=> ?_) (fun hb=> ?_)<;>have h:=hb<;>(try simp only[wf_preprocess] at h)<;>simp -implicitDefEqProofs (disch:=omega) only[go_sem,hb]<;>(repeat(with_reducible refine And.intro ?_ ?_;focus first|omega|rfl|assumption|exact⟨_,rfl,rfl⟩|(simp;omega)|(simp;done)))
  ·rw[bad i hi h]
  have k2:=h
  (repeat(with_reducible refine And.intro ?_ ?_;focus first|omega|rfl|assumption|exact⟨_,rfl,rfl⟩|(simp;omega)|(simp;done)))
  rw[show List.map encS names++[[D.s t.aB[i].fName]]=List.map encS (names++[t.aB[i].fName]) by simp[encS]]
  exact bI (i+1,names++[t.aB[i].fName]) (by simp only;omega) rfl rfl ⟨by simp only;omega,by simp only;rw[p2,sU (by simpa [iY] using hi)];simp[iY],fun j hj hji=>by
   simp only at hji
   by_cases e:j=i
   ·subst e;exact k2
   ·exact p3 j hj (by omega)⟩
 have hi:i=t.aB.length:=by omega
 have hn:names=iY t:=by rw[p2,List.take_of_length_le (by simp[iY];omega)]
 have hall:t.aB.all fF=true:=List.all_eq_true.2 fun c hc=>by
  obtain⟨j,hj,e⟩:=List.getElem_of_mem hc
  rw[←e];exact p3 j hj (by omega)
 have FT:=Pp hall
 have hnl:∀s∈names,s.length≤4194304:=fun s hm=>by
  rw[hn] at hm
  obtain⟨g,hg,e⟩:=List.mem_map.1 hm
  have:=hG g hg
  have:=aG.sum g
  rw[←e]
  omega
 have hlen:names.length=t.aB.length:=by rw[hn];simp[iY]
 clear bad p2 p3
 repeat' (first|with_reducible refine aA (fun hb=> ?_) (fun hb=> ?_)<;>have h:=hb<;>(try simp only[wf_preprocess] at h)<;>simp -implicitDefEqProofs (disch:=omega) only[go_sem,hb]<;>(repeat(with_reducible refine And.intro ?_ ?_;focus first|omega|rfl|assumption|exact⟨_,rfl,rfl⟩|(simp;omega)|(simp;done))))
 all_goals first
  |(refine afV ⟨by assumption,?_⟩;first|exact .inl (by assumption)|exact .inr (.inl (by omega))|exact .inr (.inr (by omega)))
  |skip
 all_goals
  have na:¬qX t:=fun x=>by
   obtain⟨x1,x2⟩:=x
   rcases x2 with x2|x2|x2<;>first|omega|simp_all
  (repeat(with_reducible refine And.intro ?_ ?_;focus first|omega|rfl|assumption|exact⟨_,rfl,rfl⟩|(simp;omega)|(simp;done)))
  refine ay (jA t.fName (by omega)) ?_
  simp -implicitDefEqProofs (disch:=omega) only[go_sem]
  with_reducible refine aA (fun hb=> ?_) (fun hb=> ?_)<;>have h:=hb<;>(try simp only[wf_preprocess] at h)<;>simp -implicitDefEqProofs (disch:=omega) only[go_sem,hb]<;>(repeat(with_reducible refine And.intro ?_ ?_;focus first|omega|rfl|assumption|exact⟨_,rfl,rfl⟩|(simp;omega)|(simp;done)))
  ·have h1:=h
   (repeat(with_reducible refine And.intro ?_ ?_;focus first|omega|rfl|assumption|exact⟨_,rfl,rfl⟩|(simp;omega)|(simp;done)))
   refine ay (zn t.aR 4 (by omega) hV) ?_
   simp -implicitDefEqProofs (disch:=omega) only[go_sem]<;>(repeat(with_reducible refine And.intro ?_ ?_;focus first|omega|rfl|assumption|exact⟨_,rfl,rfl⟩|(simp;omega)|(simp;done)))
   with_reducible refine aA (fun hb=> ?_) (fun hb=> ?_)<;>have h:=hb<;>(try simp only[wf_preprocess] at h)<;>simp -implicitDefEqProofs (disch:=omega) only[go_sem,hb]<;>(repeat(with_reducible refine And.intro ?_ ?_;focus first|omega|rfl|assumption|exact⟨_,rfl,rfl⟩|(simp;omega)|(simp;done)))
   ·have h2:=h
    rw[Bool.and_eq_true] at h2
    have h3:=iH h2.1
    refine ay (zn names 6 (by omega) hnl) ?_
    simp -implicitDefEqProofs (disch:=omega) only[go_sem]<;>(repeat(with_reducible refine And.intro ?_ ?_;focus first|omega|rfl|assumption|exact⟨_,rfl,rfl⟩|(simp;omega)|(simp;done)))
    refine aD ?_
    unfold cK
    rw[h1,h2.2,hall,aL na,bC (show t.aR.length≤4 by omega),hlen]
    unfold iR
    rw[hn,FT,Bool.and_true]
    simp only[Bool.true_and,Bool.not_false]
    congr 1
    exact iq ⟨fun h=>by omega,fun h=>by omega⟩
   ·refine aD ?_
    unfold cK
    have h2:(dec (t.aR.length≤4)&&iR t.aR)=false:=by
     rw[←h];congr 1;exact iq ⟨fun h=>by omega,fun h=>by omega⟩
    rw[←Bool.and_assoc (dec (t.aR.length≤4)),h2];simp
  ·exact aD (by unfold cK;rw[h];rfl)
end Go.Proofs.YtlmhknhlmicmeaaGreatDoor
namespace Go.Ab
def nR:List UInt8:=[97,117,116,111]
def rH:List UInt8:=[116,114,97,105,116]
def iJ(t:aZ):List (List UInt8):=(if t.iO=true then [nR] else [])++(if t.eO=true then [fJ] else [])
def jZ(g:aG):ah:=dn ([bn g.fName,dn (g.aT.map dB),dB g.aW]++if g.eB=true then [dn (aS g.aN),dW g.fBody] else [])
theorem DU(n:Nat)(es:List (List D)):Less (.c (.d (.ol n es))) (.c (.d (.sl es))):=fun w σ S β v h=>⟨tF h.1,h.2⟩
def fQ(t:aZ):List ah:=[bn rH,bn t.fName,dn (aS t.aR),dn (aS (iJ t))]
def l5(t:aZ):ah:=dn (fQ t++t.aB.map jZ)
noncomputable def Ib(x:aZ):ah:=zi (cK x) (l5 x)
theorem Yw{x:aZ}(h:x.sz≤1048576):(Ib x).sz≤1048576:=Nat.le_trans (ZP _ _) (by decide)
theorem uT{g:aG}(h:g.eB=true):(jZ g).ak=[bn g.fName,dn (g.aT.map dB),dB g.aW,dn (aS g.aN),dW g.fBody]:=by rw[jZ,if_pos h];rfl
theorem uU{g:aG}(h:g.eB=false):(jZ g).ak=[bn g.fName,dn (g.aT.map dB),dB g.aW]:=by rw[jZ,if_neg (by rw[h];decide)];rfl
theorem uV(g:aG):(jZ g).aV=[]:=rfl
theorem mD{g:aG}(h:fF g=true):gD g.aT=true∧formed g.aW=true∧(g.eB=true→gK g.fBody=true):=by
 unfold fF at h
 simp only[Bool.and_eq_true] at h
 obtain⟨_,_,h1,h2,h3⟩:=h
 refine⟨EY h1,H9 h2,fun hd=> ?_⟩
 rw[if_pos hd,Bool.and_eq_true] at h3
 exact VK h3.2
theorem abR(g:aG)(hok:fF g=true):(jZ g).sz≤48+32*g.sz:=by
 obtain⟨_,_,hb⟩:=mD hok
 have h1:=RL g.aT
 have h2:=Mx g.aW
 have h3:=aG.sum g
 rw[fE,Au] at h3
 by_cases hd:g.eB=true
 ·have h4:=Nc g.fBody (hb hd)
  rw[jZ,if_pos hd,pV]
  simp[dR,lD,pV,jG,vO];omega
 ·rw[jZ,if_neg hd,pV]
  simp[dR,lD,pV,jG,vO];omega
theorem Qm:∀l:List aG,(∀g∈l,fF g=true)→dR (l.map jZ)≤48*l.length+32*bF (l.map aG.enc)
 |[],_=>by simp[dR]
 |c::l,h=>by
  have h1:=abR c (h c (List.mem_cons_self ..))
  have h2:=Qm l fun g hg=>h g (List.mem_cons_of_mem _ hg)
  rw[List.map_cons,dR,List.map_cons,bF,List.length_cons];simp only[aG.sz] at h1;omega
theorem gB{t:aZ}(h:cK t=true):(∀g∈t.aB,fF g=true)∧¬(t.iO=true∧t.eO=true):=by
 unfold cK at h
 simp only[Bool.and_eq_true,Bool.not_eq_true'] at h
 obtain⟨_,_,_,_,h1,h2,_⟩:=h
 refine⟨fun g hg=>List.all_eq_true.1 h2 g hg,fun hh=> ?_⟩
 rw[bC (show qX t from⟨hh.1,.inl hh.2⟩)] at h1
 cases h1
theorem VL(t:aZ):(iJ t).length≤2∧((iJ t).map List.length).sum≤9:=by
 unfold iJ;split<;>split<;>simp[nR,fJ]
theorem DV{t:aZ}(hok:cK t=true):(l5 t).sz≤64+49*t.sz:=by
 have h1:=Qm t.aB (gB hok).1
 have h2:=VL t
 have h3:=aZ.sum t
 rw[fE] at h3
 rw[l5,pV,lW,List.length_append,List.length_map]
 simp[fQ,dR,lD,pV,jG,vO,rH];omega
theorem zx(n:Nat)(a b:List UInt8)(w v:List (List UInt8)):lx [bn a,bn b,dn (aS w),dn (aS v)] (n+1)=[[.s a,.ol (n+1) []],[.s b,.ol (n+1+1) []],[.s [],.ol (n+1+1+1) (lx (aS w) (n+1+1+1+1))],[.s [],.ol (n+1+1+1+iT (dn (aS w))) (lx (aS v) (n+1+1+1+iT (dn (aS w))+1))]]:=by
 simp only[mV,pE,lH,kQ,kR,eF,dX,mh]
end Go.Ab
namespace Go.Proofs.YtlmhknhlmicmeaaGreatDoor
open Go Go.Ab
theorem Pq(t:aZ)(n:Nat)(hv:cK t=true)(hsz:t.sz≤1048576)(ha:t.iO=true)(hs:t.eO=false):aI Tryz.prog 69 [t.v] (.agg [.d (.s []),.d (.ol n (lx (l5 t).ak (n+1)))]):=fun S=>by
 have hdz:=aZ.sum t
 rw[fE] at hdz
 obtain⟨hso,_⟩:=gB hv
 have hfl:iJ t=[nR]:=by unfold iJ;rw[ha,hs];rfl
 obtain⟨L,hL⟩:∃L:Nat→Nat,L=fun i=>n+1+gT (fQ t++(t.aB.map jZ).take i):=⟨_,rfl⟩
 obtain⟨T,hT⟩:∃T:Nat→List (List D),T=fun i=>lx (fQ t++(t.aB.map jZ).take i) (n+1):=⟨_,rfl⟩
 have hT0:T 0=[[.s rH,.ol (n+1) []],[.s t.fName,.ol (n+1+1) []],[.s [],.ol (n+1+1+1) (lx (aS t.aR) (n+1+1+1+1))],[.s [],.ol (n+1+1+1+iT (dn (aS t.aR))) (lx (aS [nR]) (n+1+1+1+iT (dn (aS t.aR))+1))]]:=by
  rw[hT];simp only[List.take_zero,List.append_nil,fQ,hfl];exact zx _ _ _ _ _
 have lV:∀i,(T i).length≤i+4:=fun i=>by
  rw[hT];simp only[gI,List.length_append]
  have:=List.length_take_le i (t.aB.map jZ)
  simp[fQ];omega
 have hTs:∀i (hi:i<t.aB.length),T i++[[.s [],.ol (L i) (lx (jZ t.aB[i]).ak (L i+1))]]=T (i+1):=fun i hi=>by
  have:=AV (base:=fQ t) (l:=t.aB.map jZ) (i:=i) (by rw[List.length_map];exact hi) (n+1)
  rw[List.getElem_map,uV] at this
  rw[hT,hL];exact this
 have hTr:∀i,∀r∈T i,r.length=2:=fun i=>by rw[hT];exact j5
 have hTe:T t.aB.length=lx (l5 t).ak (n+1):=by
  rw[hT];simp only
  rw[List.take_of_length_le (by simp)];rfl
 clear hT hL
 refine wY (n) 1 (rs:=[.cell 2 32]) Tryz.checked.mixed Tryz.func69 Tryz.ntmps69 rfl rfl rfl rfl rfl ?_
 simp -implicitDefEqProofs (disch:=omega) only[go_sem,ha,hs]
 (repeat(with_reducible refine And.intro ?_ ?_;focus first|omega|rfl|assumption|exact⟨_,rfl,rfl⟩|(simp;omega)|(simp;done)))
 refine ay (dM _ (n+1)) ?_
 simp -implicitDefEqProofs (disch:=omega) only[go_sem]
 refine ay (dM _ (n+1+1)) ?_
 simp -implicitDefEqProofs (disch:=omega) only[go_sem]
 refine ay (gU t.aR (by omega) (n+1+1+1)) ?_
 simp -implicitDefEqProofs (disch:=omega) only[go_sem]
 refine vP (gU [nR] (by simp) (n+1+1+1+iT (dn (aS t.aR)))) (.cons (DU n _) .nil) ?_
 simp -implicitDefEqProofs (disch:=omega) only[go_sem]
 (repeat(with_reducible refine And.intro ?_ ?_;focus first|omega|rfl|assumption|exact⟨_,rfl,rfl⟩|(simp;omega)|(simp;done)))
 refine pR n 4 2 (T 0) (.inl ?_) (hTr 0) ?_
 ·rw[hT0];rfl
 refine BX (L 0) ?_
 refine aX (ι:=Nat) Tryz.checked.mixed rfl [2,4,30,31,32] (fun i=>[.c (.ptr (0,3) 0),.c (.bL (0,4) (T i)),.c (.d (.sl (t.aB.map aG.enc))),.c (.d (.i .i64 t.aB.length)),.c (.d (.i .i64 i))])
  (fun i=>[.seed (L i),.seed 1,.box [.d (.s t.fName),.d (.sl (t.aR.map encS)),.d (.b true),.d (.b false),.d (.sl (t.aB.map aG.enc))],.box [.d (.s []),.aO []],.eP n 2 (T i)]::S)
  (fun i=>i≤t.aB.length) (fun i=>t.aB.length-i) 0 rfl rfl (Nat.zero_le _) ?_
 intro i hi
 have hl:=lV i
 simp -implicitDefEqProofs (disch:=omega) only[go_sem]
 with_reducible refine aA (fun hb=> ?_) (fun hb=> ?_)<;>have h:=hb<;>(try simp only[wf_preprocess] at h)<;>simp -implicitDefEqProofs (disch:=omega) only[go_sem,hb]<;>(repeat(with_reducible refine And.intro ?_ ?_;focus first|omega|rfl|assumption|exact⟨_,rfl,rfl⟩|(simp;omega)|(simp;done)))
 ·have hi':i<t.aB.length:=by omega
  have hm:=List.getElem_mem hi'
  have hcz:=tu hm
  have hce:=aG.sum t.aB[i]
  rw[fE] at hce
  obtain⟨q1,q2,q3⟩:=mD (hso _ hm)
  have hst:=hTs i hi'
  (repeat(with_reducible refine And.intro ?_ ?_;focus first|omega|rfl|assumption|exact⟨_,rfl,rfl⟩|(simp;omega)|(simp;done)))
  refine ay (dM _ (L i+1)) ?_
  simp -implicitDefEqProofs (disch:=omega) only[go_sem]
  refine ay (zq t.aB[i].aT (L i+1+1) (L i+1+1+1) q1 (by omega) (fun u hu=>by have:=tq hu;omega)) ?_
  simp -implicitDefEqProofs (disch:=omega) only[go_sem]
  refine ay (lY _) ?_
  simp -implicitDefEqProofs (disch:=omega) only[go_sem]
  refine ay (wZ t.aB[i].aW (L i+1+1+iT (dn (t.aB[i].aT.map dB))) q2 (by omega)) ?_
  simp -implicitDefEqProofs (disch:=omega) only[go_sem]
  with_reducible refine aA (fun hb=> ?_) (fun hb=> ?_)<;>have h:=hb<;>(try simp only[wf_preprocess] at h)<;>simp -implicitDefEqProofs (disch:=omega) only[go_sem,hb]<;>(repeat(with_reducible refine And.intro ?_ ?_;focus first|omega|rfl|assumption|exact⟨_,rfl,rfl⟩|(simp;omega)|(simp;done)))
  ·rw[uT h] at hst
   simp only[mV,pE,lH,kQ,kR,eF,dX,mh] at hst
   refine ay (gU t.aB[i].aN (by omega) (L i+1+1+iT (dn (t.aB[i].aT.map dB))+iT (dB t.aB[i].aW))) ?_
   simp -implicitDefEqProofs (disch:=omega) only[go_sem]
   refine ay (Bg t.aB[i].fBody (L i+1+1+iT (dn (t.aB[i].aT.map dB))+iT (dB t.aB[i].aW)+iT (dn (aS t.aB[i].aN))) (q3 h) (by omega)) ?_
   simp -implicitDefEqProofs (disch:=omega) only[go_sem]
   (repeat(with_reducible refine And.intro ?_ ?_;focus first|omega|rfl|assumption|exact⟨_,rfl,rfl⟩|(simp;omega)|(simp;done)))
   refine ay (lY _) ?_
   simp -implicitDefEqProofs (disch:=omega) only[go_sem]
   (repeat(with_reducible refine And.intro ?_ ?_;focus first|omega|rfl|assumption|exact⟨_,rfl,rfl⟩|(simp;omega)|(simp;done)))
   rw[hst]
   refine uN (L (i+1)) 4 (by decide) (i+1) (by omega) rfl rfl ?_ rfl (by omega)
   simp[jF,gQ,V.refs,C.refs,kW]
  ·rw[uU h] at hst
   simp only[mV,pE,lH,kQ,kR,eF,dX,mh] at hst
   refine ay (tZ _ _) ?_
   simp -implicitDefEqProofs (disch:=omega) only[go_sem]
   (repeat(with_reducible refine And.intro ?_ ?_;focus first|omega|rfl|assumption|exact⟨_,rfl,rfl⟩|(simp;omega)|(simp;done)))
   rw[hst]
   refine uN (L (i+1)) 4 (by decide) (i+1) (by omega) rfl rfl ?_ rfl (by omega)
   simp[jF,gQ,V.refs,C.refs,kW]
 ·have hi':i=t.aB.length:=by omega
  refine bq rfl (jq 0 4 _ _) ?_
  simp -implicitDefEqProofs (disch:=omega) only[go_sem]
  rw[hi',hTe]
theorem Pt(t:aZ)(n:Nat)(hv:cK t=true)(hsz:t.sz≤1048576)(ha:t.iO=false)(hs:t.eO=true):aI Tryz.prog 69 [t.v] (.agg [.d (.s []),.d (.ol n (lx (l5 t).ak (n+1)))]):=fun S=>by
 have hdz:=aZ.sum t
 rw[fE] at hdz
 obtain⟨hso,_⟩:=gB hv
 have hfl:iJ t=[fJ]:=by unfold iJ;rw[ha,hs];rfl
 obtain⟨L,hL⟩:∃L:Nat→Nat,L=fun i=>n+1+gT (fQ t++(t.aB.map jZ).take i):=⟨_,rfl⟩
 obtain⟨T,hT⟩:∃T:Nat→List (List D),T=fun i=>lx (fQ t++(t.aB.map jZ).take i) (n+1):=⟨_,rfl⟩
 have hT0:T 0=[[.s rH,.ol (n+1) []],[.s t.fName,.ol (n+1+1) []],[.s [],.ol (n+1+1+1) (lx (aS t.aR) (n+1+1+1+1))],[.s [],.ol (n+1+1+1+iT (dn (aS t.aR))) (lx (aS [fJ]) (n+1+1+1+iT (dn (aS t.aR))+1))]]:=by
  rw[hT];simp only[List.take_zero,List.append_nil,fQ,hfl];exact zx _ _ _ _ _
 have lV:∀i,(T i).length≤i+4:=fun i=>by
  rw[hT];simp only[gI,List.length_append]
  have:=List.length_take_le i (t.aB.map jZ)
  simp[fQ];omega
 have hTs:∀i (hi:i<t.aB.length),T i++[[.s [],.ol (L i) (lx (jZ t.aB[i]).ak (L i+1))]]=T (i+1):=fun i hi=>by
  have:=AV (base:=fQ t) (l:=t.aB.map jZ) (i:=i) (by rw[List.length_map];exact hi) (n+1)
  rw[List.getElem_map,uV] at this
  rw[hT,hL];exact this
 have hTr:∀i,∀r∈T i,r.length=2:=fun i=>by rw[hT];exact j5
 have hTe:T t.aB.length=lx (l5 t).ak (n+1):=by
  rw[hT];simp only
  rw[List.take_of_length_le (by simp)];rfl
 clear hT hL
 refine wY (n) 1 (rs:=[.cell 2 32]) Tryz.checked.mixed Tryz.func69 Tryz.ntmps69 rfl rfl rfl rfl rfl ?_
 simp -implicitDefEqProofs (disch:=omega) only[go_sem,ha,hs]
 (repeat(with_reducible refine And.intro ?_ ?_;focus first|omega|rfl|assumption|exact⟨_,rfl,rfl⟩|(simp;omega)|(simp;done)))
 refine ay (dM _ (n+1)) ?_
 simp -implicitDefEqProofs (disch:=omega) only[go_sem]
 refine ay (dM _ (n+1+1)) ?_
 simp -implicitDefEqProofs (disch:=omega) only[go_sem]
 refine ay (gU t.aR (by omega) (n+1+1+1)) ?_
 simp -implicitDefEqProofs (disch:=omega) only[go_sem]
 refine vP (gU [fJ] (by simp) (n+1+1+1+iT (dn (aS t.aR)))) (.cons (DU n _) .nil) ?_
 simp -implicitDefEqProofs (disch:=omega) only[go_sem]
 (repeat(with_reducible refine And.intro ?_ ?_;focus first|omega|rfl|assumption|exact⟨_,rfl,rfl⟩|(simp;omega)|(simp;done)))
 refine pR n 4 2 (T 0) (.inl ?_) (hTr 0) ?_
 ·rw[hT0];rfl
 refine BX (L 0) ?_
 refine aX (ι:=Nat) Tryz.checked.mixed rfl [2,4,30,31,32] (fun i=>[.c (.ptr (0,3) 0),.c (.bL (0,4) (T i)),.c (.d (.sl (t.aB.map aG.enc))),.c (.d (.i .i64 t.aB.length)),.c (.d (.i .i64 i))])
  (fun i=>[.seed (L i),.seed 1,.box [.d (.s t.fName),.d (.sl (t.aR.map encS)),.d (.b false),.d (.b true),.d (.sl (t.aB.map aG.enc))],.box [.d (.s []),.aO []],.eP n 2 (T i)]::S)
  (fun i=>i≤t.aB.length) (fun i=>t.aB.length-i) 0 rfl rfl (Nat.zero_le _) ?_
 intro i hi
 have hl:=lV i
 simp -implicitDefEqProofs (disch:=omega) only[go_sem]
 with_reducible refine aA (fun hb=> ?_) (fun hb=> ?_)<;>have h:=hb<;>(try simp only[wf_preprocess] at h)<;>simp -implicitDefEqProofs (disch:=omega) only[go_sem,hb]<;>(repeat(with_reducible refine And.intro ?_ ?_;focus first|omega|rfl|assumption|exact⟨_,rfl,rfl⟩|(simp;omega)|(simp;done)))
 ·have hi':i<t.aB.length:=by omega
  have hm:=List.getElem_mem hi'
  have hcz:=tu hm
  have hce:=aG.sum t.aB[i]
  rw[fE] at hce
  obtain⟨q1,q2,q3⟩:=mD (hso _ hm)
  have hst:=hTs i hi'
  (repeat(with_reducible refine And.intro ?_ ?_;focus first|omega|rfl|assumption|exact⟨_,rfl,rfl⟩|(simp;omega)|(simp;done)))
  refine ay (dM _ (L i+1)) ?_
  simp -implicitDefEqProofs (disch:=omega) only[go_sem]
  refine ay (zq t.aB[i].aT (L i+1+1) (L i+1+1+1) q1 (by omega) (fun u hu=>by have:=tq hu;omega)) ?_
  simp -implicitDefEqProofs (disch:=omega) only[go_sem]
  refine ay (lY _) ?_
  simp -implicitDefEqProofs (disch:=omega) only[go_sem]
  refine ay (wZ t.aB[i].aW (L i+1+1+iT (dn (t.aB[i].aT.map dB))) q2 (by omega)) ?_
  simp -implicitDefEqProofs (disch:=omega) only[go_sem]
  with_reducible refine aA (fun hb=> ?_) (fun hb=> ?_)<;>have h:=hb<;>(try simp only[wf_preprocess] at h)<;>simp -implicitDefEqProofs (disch:=omega) only[go_sem,hb]<;>(repeat(with_reducible refine And.intro ?_ ?_;focus first|omega|rfl|assumption|exact⟨_,rfl,rfl⟩|(simp;omega)|(simp;done)))
  ·rw[uT h] at hst
   simp only[mV,pE,lH,kQ,kR,eF,dX,mh] at hst
   refine ay (gU t.aB[i].aN (by omega) (L i+1+1+iT (dn (t.aB[i].aT.map dB))+iT (dB t.aB[i].aW))) ?_
   simp -implicitDefEqProofs (disch:=omega) only[go_sem]
   refine ay (Bg t.aB[i].fBody (L i+1+1+iT (dn (t.aB[i].aT.map dB))+iT (dB t.aB[i].aW)+iT (dn (aS t.aB[i].aN))) (q3 h) (by omega)) ?_
   simp -implicitDefEqProofs (disch:=omega) only[go_sem]
   (repeat(with_reducible refine And.intro ?_ ?_;focus first|omega|rfl|assumption|exact⟨_,rfl,rfl⟩|(simp;omega)|(simp;done)))
   refine ay (lY _) ?_
   simp -implicitDefEqProofs (disch:=omega) only[go_sem]
   (repeat(with_reducible refine And.intro ?_ ?_;focus first|omega|rfl|assumption|exact⟨_,rfl,rfl⟩|(simp;omega)|(simp;done)))
   rw[hst]
   refine uN (L (i+1)) 4 (by decide) (i+1) (by omega) rfl rfl ?_ rfl (by omega)
   simp[jF,gQ,V.refs,C.refs,kW]
  ·rw[uU h] at hst
   simp only[mV,pE,lH,kQ,kR,eF,dX,mh] at hst
   refine ay (tZ _ _) ?_
   simp -implicitDefEqProofs (disch:=omega) only[go_sem]
   (repeat(with_reducible refine And.intro ?_ ?_;focus first|omega|rfl|assumption|exact⟨_,rfl,rfl⟩|(simp;omega)|(simp;done)))
   rw[hst]
   refine uN (L (i+1)) 4 (by decide) (i+1) (by omega) rfl rfl ?_ rfl (by omega)
   simp[jF,gQ,V.refs,C.refs,kW]
 ·have hi':i=t.aB.length:=by omega
  refine bq rfl (jq 0 4 _ _) ?_
  simp -implicitDefEqProofs (disch:=omega) only[go_sem]
  rw[hi',hTe]
theorem Pv(t:aZ)(n:Nat)(hv:cK t=true)(hsz:t.sz≤1048576)(ha:t.iO=false)(hs:t.eO=false):aI Tryz.prog 69 [t.v] (.agg [.d (.s []),.d (.ol n (lx (l5 t).ak (n+1)))]):=fun S=>by
 have hdz:=aZ.sum t
 rw[fE] at hdz
 obtain⟨hso,_⟩:=gB hv
 have hfl:iJ t=[]:=by unfold iJ;rw[ha,hs];rfl
 obtain⟨L,hL⟩:∃L:Nat→Nat,L=fun i=>n+1+gT (fQ t++(t.aB.map jZ).take i):=⟨_,rfl⟩
 obtain⟨T,hT⟩:∃T:Nat→List (List D),T=fun i=>lx (fQ t++(t.aB.map jZ).take i) (n+1):=⟨_,rfl⟩
 have hT0:T 0=[[.s rH,.ol (n+1) []],[.s t.fName,.ol (n+1+1) []],[.s [],.ol (n+1+1+1) (lx (aS t.aR) (n+1+1+1+1))],[.s [],.ol (n+1+1+1+iT (dn (aS t.aR))) (lx (aS []) (n+1+1+1+iT (dn (aS t.aR))+1))]]:=by
  rw[hT];simp only[List.take_zero,List.append_nil,fQ,hfl];exact zx _ _ _ _ _
 have lV:∀i,(T i).length≤i+4:=fun i=>by
  rw[hT];simp only[gI,List.length_append]
  have:=List.length_take_le i (t.aB.map jZ)
  simp[fQ];omega
 have hTs:∀i (hi:i<t.aB.length),T i++[[.s [],.ol (L i) (lx (jZ t.aB[i]).ak (L i+1))]]=T (i+1):=fun i hi=>by
  have:=AV (base:=fQ t) (l:=t.aB.map jZ) (i:=i) (by rw[List.length_map];exact hi) (n+1)
  rw[List.getElem_map,uV] at this
  rw[hT,hL];exact this
 have hTr:∀i,∀r∈T i,r.length=2:=fun i=>by rw[hT];exact j5
 have hTe:T t.aB.length=lx (l5 t).ak (n+1):=by
  rw[hT];simp only
  rw[List.take_of_length_le (by simp)];rfl
 clear hT hL
 refine wY (n) 1 (rs:=[.cell 2 32]) Tryz.checked.mixed Tryz.func69 Tryz.ntmps69 rfl rfl rfl rfl rfl ?_
 simp -implicitDefEqProofs (disch:=omega) only[go_sem,ha,hs]
 (repeat(with_reducible refine And.intro ?_ ?_;focus first|omega|rfl|assumption|exact⟨_,rfl,rfl⟩|(simp;omega)|(simp;done)))
 refine ay (dM _ (n+1)) ?_
 simp -implicitDefEqProofs (disch:=omega) only[go_sem]
 refine ay (dM _ (n+1+1)) ?_
 simp -implicitDefEqProofs (disch:=omega) only[go_sem]
 refine ay (gU t.aR (by omega) (n+1+1+1)) ?_
 simp -implicitDefEqProofs (disch:=omega) only[go_sem]
 refine vP (gU [] (by simp) (n+1+1+1+iT (dn (aS t.aR)))) (.cons (mo n _) .nil) ?_
 simp -implicitDefEqProofs (disch:=omega) only[go_sem]
 (repeat(with_reducible refine And.intro ?_ ?_;focus first|omega|rfl|assumption|exact⟨_,rfl,rfl⟩|(simp;omega)|(simp;done)))
 refine pR n 4 2 (T 0) (.inl ?_) (hTr 0) ?_
 ·rw[hT0];rfl
 refine BX (L 0) ?_
 refine aX (ι:=Nat) Tryz.checked.mixed rfl [2,4,30,31,32] (fun i=>[.c (.ptr (0,3) 0),.c (.bL (0,4) (T i)),.c (.d (.sl (t.aB.map aG.enc))),.c (.d (.i .i64 t.aB.length)),.c (.d (.i .i64 i))])
  (fun i=>[.seed (L i),.seed 1,.box [.d (.s t.fName),.d (.sl (t.aR.map encS)),.d (.b false),.d (.b false),.d (.sl (t.aB.map aG.enc))],.box [.d (.s []),.aO []],.eP n 2 (T i)]::S)
  (fun i=>i≤t.aB.length) (fun i=>t.aB.length-i) 0 rfl rfl (Nat.zero_le _) ?_
 intro i hi
 have hl:=lV i
 simp -implicitDefEqProofs (disch:=omega) only[go_sem]
 with_reducible refine aA (fun hb=> ?_) (fun hb=> ?_)<;>have h:=hb<;>(try simp only[wf_preprocess] at h)<;>simp -implicitDefEqProofs (disch:=omega) only[go_sem,hb]<;>(repeat(with_reducible refine And.intro ?_ ?_;focus first|omega|rfl|assumption|exact⟨_,rfl,rfl⟩|(simp;omega)|(simp;done)))
 ·have hi':i<t.aB.length:=by omega
  have hm:=List.getElem_mem hi'
  have hcz:=tu hm
  have hce:=aG.sum t.aB[i]
  rw[fE] at hce
  obtain⟨q1,q2,q3⟩:=mD (hso _ hm)
  have hst:=hTs i hi'
  (repeat(with_reducible refine And.intro ?_ ?_;focus first|omega|rfl|assumption|exact⟨_,rfl,rfl⟩|(simp;omega)|(simp;done)))
  refine ay (dM _ (L i+1)) ?_
  simp -implicitDefEqProofs (disch:=omega) only[go_sem]
  refine ay (zq t.aB[i].aT (L i+1+1) (L i+1+1+1) q1 (by omega) (fun u hu=>by have:=tq hu;omega)) ?_
  simp -implicitDefEqProofs (disch:=omega) only[go_sem]
  refine ay (lY _) ?_
  simp -implicitDefEqProofs (disch:=omega) only[go_sem]
  refine ay (wZ t.aB[i].aW (L i+1+1+iT (dn (t.aB[i].aT.map dB))) q2 (by omega)) ?_
  simp -implicitDefEqProofs (disch:=omega) only[go_sem]
  with_reducible refine aA (fun hb=> ?_) (fun hb=> ?_)<;>have h:=hb<;>(try simp only[wf_preprocess] at h)<;>simp -implicitDefEqProofs (disch:=omega) only[go_sem,hb]<;>(repeat(with_reducible refine And.intro ?_ ?_;focus first|omega|rfl|assumption|exact⟨_,rfl,rfl⟩|(simp;omega)|(simp;done)))
  ·rw[uT h] at hst
   simp only[mV,pE,lH,kQ,kR,eF,dX,mh] at hst
   refine ay (gU t.aB[i].aN (by omega) (L i+1+1+iT (dn (t.aB[i].aT.map dB))+iT (dB t.aB[i].aW))) ?_
   simp -implicitDefEqProofs (disch:=omega) only[go_sem]
   refine ay (Bg t.aB[i].fBody (L i+1+1+iT (dn (t.aB[i].aT.map dB))+iT (dB t.aB[i].aW)+iT (dn (aS t.aB[i].aN))) (q3 h) (by omega)) ?_
   simp -implicitDefEqProofs (disch:=omega) only[go_sem]
   (repeat(with_reducible refine And.intro ?_ ?_;focus first|omega|rfl|assumption|exact⟨_,rfl,rfl⟩|(simp;omega)|(simp;done)))
   refine ay (lY _) ?_
   simp -implicitDefEqProofs (disch:=omega) only[go_sem]
   (repeat(with_reducible refine And.intro ?_ ?_;focus first|omega|rfl|assumption|exact⟨_,rfl,rfl⟩|(simp;omega)|(simp;done)))
   rw[hst]
   refine uN (L (i+1)) 4 (by decide) (i+1) (by omega) rfl rfl ?_ rfl (by omega)
   simp[jF,gQ,V.refs,C.refs,kW]
  ·rw[uU h] at hst
   simp only[mV,pE,lH,kQ,kR,eF,dX,mh] at hst
   refine ay (tZ _ _) ?_
   simp -implicitDefEqProofs (disch:=omega) only[go_sem]
   (repeat(with_reducible refine And.intro ?_ ?_;focus first|omega|rfl|assumption|exact⟨_,rfl,rfl⟩|(simp;omega)|(simp;done)))
   rw[hst]
   refine uN (L (i+1)) 4 (by decide) (i+1) (by omega) rfl rfl ?_ rfl (by omega)
   simp[jF,gQ,V.refs,C.refs,kW]
 ·have hi':i=t.aB.length:=by omega
  refine bq rfl (jq 0 4 _ _) ?_
  simp -implicitDefEqProofs (disch:=omega) only[go_sem]
  rw[hi',hTe]
theorem KI(t:aZ)(n:Nat)(hv:cK t=true)(hsz:t.sz≤1048576):aI Tryz.prog 69 [t.v] (.agg [.d (.s []),.d (.ol n (lx (l5 t).ak (n+1)))]):=by
 have hb:=(gB hv).2
 cases ha:t.iO with
 |true=>
  cases hs:t.eO with
  |true=>exact absurd ⟨ha,hs⟩ hb
  |false=>exact Pq t n hv hsz ha hs
 |false=>
  cases hs:t.eO with
  |true=>exact Pt t n hv hsz ha hs
  |false=>exact Pv t n hv hsz ha hs
theorem Yx(t:aZ)(hv:cK t=true)(hsz:t.sz≤1048576)(ha:t.iO=true)(hs:t.eO=false):aI Tryz.prog 56 [t.v] (Ej (l5 t)).v:=fun S=>by
 have hdz:=aZ.sum t
 rw[fE] at hdz
 obtain⟨hso,_⟩:=gB hv
 have hz:=DV hv
 have hfl:iJ t=[nR]:=by unfold iJ;rw[ha,hs];rfl
 obtain⟨T,hT⟩:∃T:Nat→List (List D),T=fun i=>(fQ t++(t.aB.map jZ).take i).map ah.enc:=⟨_,rfl⟩
 have hT0:T 0=[[.s rH,.sl []],[.s t.fName,.sl []],[.s [],.sl ((aS t.aR).map ah.enc)],[.s [],.sl ((aS [nR]).map ah.enc)]]:=by
  rw[hT];simp only[List.take_zero,List.append_nil,fQ,hfl,List.map_cons,List.map_nil,fI,oP]
 have lV:∀i,(T i).length≤i+4:=fun i=>by
  rw[hT];simp only[List.length_map,List.length_append]
  have:=List.length_take_le i (t.aB.map jZ)
  simp[fQ];omega
 have hTs:∀i (hi:i<t.aB.length),T i++[[.s [],.sl ((jZ t.aB[i]).ak.map ah.enc)]]=T (i+1):=fun i hi=>by
  have:=lq (base:=fQ t) (l:=t.aB.map jZ) (i:=i) (by rw[List.length_map];exact hi)
  rw[List.getElem_map,uV] at this
  rw[hT];exact this
 have hTr:∀i,∀r∈T i,r.length=2:=fun i=>by rw[hT];exact iy
 have hTe:T t.aB.length=(l5 t).ak.map ah.enc:=by
  rw[hT];simp only
  rw[List.take_of_length_le (by simp)];rfl
 clear hT
 refine aF (rs:=[.cell 2 32]) Tryz.checked.mixed Tryz.func56 Tryz.ntmps56 rfl rfl rfl rfl rfl ?_
 simp -implicitDefEqProofs (disch:=omega) only[go_sem]
 refine ay (nQ t (by omega)) ?_
 simp -implicitDefEqProofs (disch:=omega) only[go_sem,hv,ha,hs]
 (repeat(with_reducible refine And.intro ?_ ?_;focus first|omega|rfl|assumption|exact⟨_,rfl,rfl⟩|(simp;omega)|(simp;done)))
 refine ay (bQ _) ?_
 simp -implicitDefEqProofs (disch:=omega) only[go_sem]
 refine ay (bQ _) ?_
 simp -implicitDefEqProofs (disch:=omega) only[go_sem]
 refine ay (iD t.aR (by omega)) ?_
 simp -implicitDefEqProofs (disch:=omega) only[go_sem]
 refine ay (iD [nR] (by simp)) ?_
 simp -implicitDefEqProofs (disch:=omega) only[go_sem]
 have hE:=fun bf Ω=>og (T 0) (hTr 0) (by have:=lV 0;omega) bf Ω
 simp only[hT0] at hE
 refine oW [false] rfl (hE _ _) ?_
 simp -implicitDefEqProofs (disch:=omega) only[go_sem]
 refine aX (ι:=Nat) Tryz.checked.mixed rfl [1,2,4,5] (fun i=>[.c (.ptr (0,0) 0),.c (.ptr (0,1) 0),.c (.ptr (0,5) 0),.c (.d (.i .i64 i))])
  (fun i=>[.box [.d (.s t.fName),.d (.sl (t.aR.map encS)),.d (.b true),.d (.b false),.d (.sl (t.aB.map aG.enc))],.box [.d (.s []),.aO []],.tok 1 [[.s nR]],.box [.d (.s []),.bL (0,4) (T 0)],.tok 2 (T i),.box [.d (.s []),.bL (0,4) (T i)]]::S)
  (fun i=>i≤t.aB.length) (fun i=>t.aB.length-i) 0 rfl (by simp only[hT0]<;>(try rfl)) (Nat.zero_le _) ?_
 intro i hi
 have hl:=lV i
 simp -implicitDefEqProofs (disch:=omega) only[go_sem]
 with_reducible refine aA (fun hb=> ?_) (fun hb=> ?_)<;>have h:=hb<;>(try simp only[wf_preprocess] at h)<;>simp -implicitDefEqProofs (disch:=omega) only[go_sem,hb]<;>(repeat(with_reducible refine And.intro ?_ ?_;focus first|omega|rfl|assumption|exact⟨_,rfl,rfl⟩|(simp;omega)|(simp;done)))
 ·have hi':i<t.aB.length:=by omega
  have hm:=List.getElem_mem hi'
  have hcz:=tu hm
  have hce:=aG.sum t.aB[i]
  rw[fE] at hce
  obtain⟨q1,q2,q3⟩:=mD (hso _ hm)
  have hst:=hTs i hi'
  (repeat(with_reducible refine And.intro ?_ ?_;focus first|omega|rfl|assumption|exact⟨_,rfl,rfl⟩|(simp;omega)|(simp;done)))
  refine ay (bQ _) ?_
  simp -implicitDefEqProofs (disch:=omega) only[go_sem]
  refine ay (AZ t.aB[i].aT (by omega) (fun u hu=>by have:=tq hu;omega)) ?_
  simp -implicitDefEqProofs (disch:=omega) only[go_sem]
  refine ay (vS t.aB[i].aW (by omega)) ?_
  simp -implicitDefEqProofs (disch:=omega) only[go_sem]
  refine oW [false] rfl (og _ (by simp) (by simp) _ _) ?_
  simp -implicitDefEqProofs (disch:=omega) only[go_sem]
  with_reducible refine aA (fun hb=> ?_) (fun hb=> ?_)<;>have h:=hb<;>(try simp only[wf_preprocess] at h)<;>simp -implicitDefEqProofs (disch:=omega) only[go_sem,hb]<;>(repeat(with_reducible refine And.intro ?_ ?_;focus first|omega|rfl|assumption|exact⟨_,rfl,rfl⟩|(simp;omega)|(simp;done)))
  ·rw[uT h] at hst
   simp only[List.map_cons,List.map_nil,fI,oP,ah.aH (dB t.aB[i].aW),ah.aH (dW t.aB[i].fBody)] at hst
   refine ay (iD t.aB[i].aN (by omega)) ?_
   simp -implicitDefEqProofs (disch:=omega) only[go_sem]
   refine ay (Db t.aB[i].fBody (q3 h) (by omega)) ?_
   simp -implicitDefEqProofs (disch:=omega) only[go_sem]
   (repeat(with_reducible refine And.intro ?_ ?_;focus first|omega|rfl|assumption|exact⟨_,rfl,rfl⟩|(simp;omega)|(simp;done)))
   rw[hst]
   exact dA 6 (by decide) (i+1) (by omega) rfl rfl rfl rfl (by omega)
  ·rw[uU h] at hst
   simp only[List.map_cons,List.map_nil,fI,oP,ah.aH (dB t.aB[i].aW)] at hst
   (repeat(with_reducible refine And.intro ?_ ?_;focus first|omega|rfl|assumption|exact⟨_,rfl,rfl⟩|(simp;omega)|(simp;done)))
   rw[hst]
   exact dA 6 (by decide) (i+1) (by omega) rfl rfl rfl rfl (by omega)
 ·have hi':i=t.aB.length:=by omega
  subst hi'
  rw[hTe]
  refine ay (CG true (l5 t) (by omega)) ?_
  simp -implicitDefEqProofs (disch:=omega) only[go_sem]
  rfl
theorem Yy(t:aZ)(hv:cK t=true)(hsz:t.sz≤1048576)(ha:t.iO=false)(hs:t.eO=true):aI Tryz.prog 56 [t.v] (Ej (l5 t)).v:=fun S=>by
 have hdz:=aZ.sum t
 rw[fE] at hdz
 obtain⟨hso,_⟩:=gB hv
 have hz:=DV hv
 have hfl:iJ t=[fJ]:=by unfold iJ;rw[ha,hs];rfl
 obtain⟨T,hT⟩:∃T:Nat→List (List D),T=fun i=>(fQ t++(t.aB.map jZ).take i).map ah.enc:=⟨_,rfl⟩
 have hT0:T 0=[[.s rH,.sl []],[.s t.fName,.sl []],[.s [],.sl ((aS t.aR).map ah.enc)],[.s [],.sl ((aS [fJ]).map ah.enc)]]:=by
  rw[hT];simp only[List.take_zero,List.append_nil,fQ,hfl,List.map_cons,List.map_nil,fI,oP]
 have lV:∀i,(T i).length≤i+4:=fun i=>by
  rw[hT];simp only[List.length_map,List.length_append]
  have:=List.length_take_le i (t.aB.map jZ)
  simp[fQ];omega
 have hTs:∀i (hi:i<t.aB.length),T i++[[.s [],.sl ((jZ t.aB[i]).ak.map ah.enc)]]=T (i+1):=fun i hi=>by
  have:=lq (base:=fQ t) (l:=t.aB.map jZ) (i:=i) (by rw[List.length_map];exact hi)
  rw[List.getElem_map,uV] at this
  rw[hT];exact this
 have hTr:∀i,∀r∈T i,r.length=2:=fun i=>by rw[hT];exact iy
 have hTe:T t.aB.length=(l5 t).ak.map ah.enc:=by
  rw[hT];simp only
  rw[List.take_of_length_le (by simp)];rfl
 clear hT
 refine aF (rs:=[.cell 2 32]) Tryz.checked.mixed Tryz.func56 Tryz.ntmps56 rfl rfl rfl rfl rfl ?_
 simp -implicitDefEqProofs (disch:=omega) only[go_sem]
 refine ay (nQ t (by omega)) ?_
 simp -implicitDefEqProofs (disch:=omega) only[go_sem,hv,ha,hs]
 (repeat(with_reducible refine And.intro ?_ ?_;focus first|omega|rfl|assumption|exact⟨_,rfl,rfl⟩|(simp;omega)|(simp;done)))
 refine ay (bQ _) ?_
 simp -implicitDefEqProofs (disch:=omega) only[go_sem]
 refine ay (bQ _) ?_
 simp -implicitDefEqProofs (disch:=omega) only[go_sem]
 refine ay (iD t.aR (by omega)) ?_
 simp -implicitDefEqProofs (disch:=omega) only[go_sem]
 refine ay (iD [fJ] (by simp)) ?_
 simp -implicitDefEqProofs (disch:=omega) only[go_sem]
 have hE:=fun bf Ω=>og (T 0) (hTr 0) (by have:=lV 0;omega) bf Ω
 simp only[hT0] at hE
 refine oW [false] rfl (hE _ _) ?_
 simp -implicitDefEqProofs (disch:=omega) only[go_sem]
 refine aX (ι:=Nat) Tryz.checked.mixed rfl [1,2,4,5] (fun i=>[.c (.ptr (0,0) 0),.c (.ptr (0,1) 0),.c (.ptr (0,5) 0),.c (.d (.i .i64 i))])
  (fun i=>[.box [.d (.s t.fName),.d (.sl (t.aR.map encS)),.d (.b false),.d (.b true),.d (.sl (t.aB.map aG.enc))],.box [.d (.s []),.aO []],.tok 1 [[.s fJ]],.box [.d (.s []),.bL (0,4) (T 0)],.tok 2 (T i),.box [.d (.s []),.bL (0,4) (T i)]]::S)
  (fun i=>i≤t.aB.length) (fun i=>t.aB.length-i) 0 rfl (by simp only[hT0]<;>(try rfl)) (Nat.zero_le _) ?_
 intro i hi
 have hl:=lV i
 simp -implicitDefEqProofs (disch:=omega) only[go_sem]
 with_reducible refine aA (fun hb=> ?_) (fun hb=> ?_)<;>have h:=hb<;>(try simp only[wf_preprocess] at h)<;>simp -implicitDefEqProofs (disch:=omega) only[go_sem,hb]<;>(repeat(with_reducible refine And.intro ?_ ?_;focus first|omega|rfl|assumption|exact⟨_,rfl,rfl⟩|(simp;omega)|(simp;done)))
 ·have hi':i<t.aB.length:=by omega
  have hm:=List.getElem_mem hi'
  have hcz:=tu hm
  have hce:=aG.sum t.aB[i]
  rw[fE] at hce
  obtain⟨q1,q2,q3⟩:=mD (hso _ hm)
  have hst:=hTs i hi'
  (repeat(with_reducible refine And.intro ?_ ?_;focus first|omega|rfl|assumption|exact⟨_,rfl,rfl⟩|(simp;omega)|(simp;done)))
  refine ay (bQ _) ?_
  simp -implicitDefEqProofs (disch:=omega) only[go_sem]
  refine ay (AZ t.aB[i].aT (by omega) (fun u hu=>by have:=tq hu;omega)) ?_
  simp -implicitDefEqProofs (disch:=omega) only[go_sem]
  refine ay (vS t.aB[i].aW (by omega)) ?_
  simp -implicitDefEqProofs (disch:=omega) only[go_sem]
  refine oW [false] rfl (og _ (by simp) (by simp) _ _) ?_
  simp -implicitDefEqProofs (disch:=omega) only[go_sem]
  with_reducible refine aA (fun hb=> ?_) (fun hb=> ?_)<;>have h:=hb<;>(try simp only[wf_preprocess] at h)<;>simp -implicitDefEqProofs (disch:=omega) only[go_sem,hb]<;>(repeat(with_reducible refine And.intro ?_ ?_;focus first|omega|rfl|assumption|exact⟨_,rfl,rfl⟩|(simp;omega)|(simp;done)))
  ·rw[uT h] at hst
   simp only[List.map_cons,List.map_nil,fI,oP,ah.aH (dB t.aB[i].aW),ah.aH (dW t.aB[i].fBody)] at hst
   refine ay (iD t.aB[i].aN (by omega)) ?_
   simp -implicitDefEqProofs (disch:=omega) only[go_sem]
   refine ay (Db t.aB[i].fBody (q3 h) (by omega)) ?_
   simp -implicitDefEqProofs (disch:=omega) only[go_sem]
   (repeat(with_reducible refine And.intro ?_ ?_;focus first|omega|rfl|assumption|exact⟨_,rfl,rfl⟩|(simp;omega)|(simp;done)))
   rw[hst]
   exact dA 6 (by decide) (i+1) (by omega) rfl rfl rfl rfl (by omega)
  ·rw[uU h] at hst
   simp only[List.map_cons,List.map_nil,fI,oP,ah.aH (dB t.aB[i].aW)] at hst
   (repeat(with_reducible refine And.intro ?_ ?_;focus first|omega|rfl|assumption|exact⟨_,rfl,rfl⟩|(simp;omega)|(simp;done)))
   rw[hst]
   exact dA 6 (by decide) (i+1) (by omega) rfl rfl rfl rfl (by omega)
 ·have hi':i=t.aB.length:=by omega
  subst hi'
  rw[hTe]
  refine ay (CG true (l5 t) (by omega)) ?_
  simp -implicitDefEqProofs (disch:=omega) only[go_sem]
  rfl
theorem Yz(t:aZ)(hv:cK t=true)(hsz:t.sz≤1048576)(ha:t.iO=false)(hs:t.eO=false):aI Tryz.prog 56 [t.v] (Ej (l5 t)).v:=fun S=>by
 have hdz:=aZ.sum t
 rw[fE] at hdz
 obtain⟨hso,_⟩:=gB hv
 have hz:=DV hv
 have hfl:iJ t=[]:=by unfold iJ;rw[ha,hs];rfl
 obtain⟨T,hT⟩:∃T:Nat→List (List D),T=fun i=>(fQ t++(t.aB.map jZ).take i).map ah.enc:=⟨_,rfl⟩
 have hT0:T 0=[[.s rH,.sl []],[.s t.fName,.sl []],[.s [],.sl ((aS t.aR).map ah.enc)],[.s [],.sl ((aS []).map ah.enc)]]:=by
  rw[hT];simp only[List.take_zero,List.append_nil,fQ,hfl,List.map_cons,List.map_nil,fI,oP]
 have lV:∀i,(T i).length≤i+4:=fun i=>by
  rw[hT];simp only[List.length_map,List.length_append]
  have:=List.length_take_le i (t.aB.map jZ)
  simp[fQ];omega
 have hTs:∀i (hi:i<t.aB.length),T i++[[.s [],.sl ((jZ t.aB[i]).ak.map ah.enc)]]=T (i+1):=fun i hi=>by
  have:=lq (base:=fQ t) (l:=t.aB.map jZ) (i:=i) (by rw[List.length_map];exact hi)
  rw[List.getElem_map,uV] at this
  rw[hT];exact this
 have hTr:∀i,∀r∈T i,r.length=2:=fun i=>by rw[hT];exact iy
 have hTe:T t.aB.length=(l5 t).ak.map ah.enc:=by
  rw[hT];simp only
  rw[List.take_of_length_le (by simp)];rfl
 clear hT
 refine aF (rs:=[.cell 2 32]) Tryz.checked.mixed Tryz.func56 Tryz.ntmps56 rfl rfl rfl rfl rfl ?_
 simp -implicitDefEqProofs (disch:=omega) only[go_sem]
 refine ay (nQ t (by omega)) ?_
 simp -implicitDefEqProofs (disch:=omega) only[go_sem,hv,ha,hs]
 (repeat(with_reducible refine And.intro ?_ ?_;focus first|omega|rfl|assumption|exact⟨_,rfl,rfl⟩|(simp;omega)|(simp;done)))
 refine ay (bQ _) ?_
 simp -implicitDefEqProofs (disch:=omega) only[go_sem]
 refine ay (bQ _) ?_
 simp -implicitDefEqProofs (disch:=omega) only[go_sem]
 refine ay (iD t.aR (by omega)) ?_
 simp -implicitDefEqProofs (disch:=omega) only[go_sem]
 refine ay (iD [] (by simp)) ?_
 simp -implicitDefEqProofs (disch:=omega) only[go_sem]
 have hE:=fun bf Ω=>og (T 0) (hTr 0) (by have:=lV 0;omega) bf Ω
 simp only[hT0] at hE
 refine oW [false] rfl (hE _ _) ?_
 simp -implicitDefEqProofs (disch:=omega) only[go_sem]
 refine aX (ι:=Nat) Tryz.checked.mixed rfl [1,2,4,5] (fun i=>[.c (.ptr (0,0) 0),.c (.ptr (0,1) 0),.c (.ptr (0,4) 0),.c (.d (.i .i64 i))])
  (fun i=>[.box [.d (.s t.fName),.d (.sl (t.aR.map encS)),.d (.b false),.d (.b false),.d (.sl (t.aB.map aG.enc))],.box [.d (.s []),.aO []],.box [.d (.s []),.bL (0,3) (T 0)],.tok 2 (T i),.box [.d (.s []),.bL (0,3) (T i)]]::S)
  (fun i=>i≤t.aB.length) (fun i=>t.aB.length-i) 0 rfl (by simp only[hT0]<;>(try rfl)) (Nat.zero_le _) ?_
 intro i hi
 have hl:=lV i
 simp -implicitDefEqProofs (disch:=omega) only[go_sem]
 with_reducible refine aA (fun hb=> ?_) (fun hb=> ?_)<;>have h:=hb<;>(try simp only[wf_preprocess] at h)<;>simp -implicitDefEqProofs (disch:=omega) only[go_sem,hb]<;>(repeat(with_reducible refine And.intro ?_ ?_;focus first|omega|rfl|assumption|exact⟨_,rfl,rfl⟩|(simp;omega)|(simp;done)))
 ·have hi':i<t.aB.length:=by omega
  have hm:=List.getElem_mem hi'
  have hcz:=tu hm
  have hce:=aG.sum t.aB[i]
  rw[fE] at hce
  obtain⟨q1,q2,q3⟩:=mD (hso _ hm)
  have hst:=hTs i hi'
  (repeat(with_reducible refine And.intro ?_ ?_;focus first|omega|rfl|assumption|exact⟨_,rfl,rfl⟩|(simp;omega)|(simp;done)))
  refine ay (bQ _) ?_
  simp -implicitDefEqProofs (disch:=omega) only[go_sem]
  refine ay (AZ t.aB[i].aT (by omega) (fun u hu=>by have:=tq hu;omega)) ?_
  simp -implicitDefEqProofs (disch:=omega) only[go_sem]
  refine ay (vS t.aB[i].aW (by omega)) ?_
  simp -implicitDefEqProofs (disch:=omega) only[go_sem]
  refine oW [false] rfl (og _ (by simp) (by simp) _ _) ?_
  simp -implicitDefEqProofs (disch:=omega) only[go_sem]
  with_reducible refine aA (fun hb=> ?_) (fun hb=> ?_)<;>have h:=hb<;>(try simp only[wf_preprocess] at h)<;>simp -implicitDefEqProofs (disch:=omega) only[go_sem,hb]<;>(repeat(with_reducible refine And.intro ?_ ?_;focus first|omega|rfl|assumption|exact⟨_,rfl,rfl⟩|(simp;omega)|(simp;done)))
  ·rw[uT h] at hst
   simp only[List.map_cons,List.map_nil,fI,oP,ah.aH (dB t.aB[i].aW),ah.aH (dW t.aB[i].fBody)] at hst
   refine ay (iD t.aB[i].aN (by omega)) ?_
   simp -implicitDefEqProofs (disch:=omega) only[go_sem]
   refine ay (Db t.aB[i].fBody (q3 h) (by omega)) ?_
   simp -implicitDefEqProofs (disch:=omega) only[go_sem]
   (repeat(with_reducible refine And.intro ?_ ?_;focus first|omega|rfl|assumption|exact⟨_,rfl,rfl⟩|(simp;omega)|(simp;done)))
   rw[hst]
   exact dA 5 (by decide) (i+1) (by omega) rfl rfl rfl rfl (by omega)
  ·rw[uU h] at hst
   simp only[List.map_cons,List.map_nil,fI,oP,ah.aH (dB t.aB[i].aW)] at hst
   (repeat(with_reducible refine And.intro ?_ ?_;focus first|omega|rfl|assumption|exact⟨_,rfl,rfl⟩|(simp;omega)|(simp;done)))
   rw[hst]
   exact dA 5 (by decide) (i+1) (by omega) rfl rfl rfl rfl (by omega)
 ·have hi':i=t.aB.length:=by omega
  subst hi'
  rw[hTe]
  refine ay (CG true (l5 t) (by omega)) ?_
  simp -implicitDefEqProofs (disch:=omega) only[go_sem]
  rfl
theorem VN(t:aZ)(hsz:t.sz≤1048576):aI Tryz.prog 56 [t.v] (Ib t).v:=by
 unfold Ib
 cases hv:cK t with
 |false=>
  rw[zi]
  refine aI.less (fun S=> ?_) (I5 [] [])
  refine aF (rs:=[.cell 2 32]) Tryz.checked.mixed Tryz.func56 Tryz.ntmps56 rfl rfl rfl rfl rfl ?_
  simp -implicitDefEqProofs (disch:=omega) only[go_sem]
  refine ay (nQ t (by omega)) ?_
  simp -implicitDefEqProofs (disch:=omega) only[go_sem,hv]
 |true=>
  rw[zi]
  have hb:=(gB hv).2
  cases ha:t.iO with
  |true=>
   cases hs:t.eO with
   |true=>exact absurd ⟨ha,hs⟩ hb
   |false=>exact Yx t hv hsz ha hs
  |false=>
   cases hs:t.eO with
   |true=>exact Yy t hv hsz ha hs
   |false=>exact Yz t hv hsz ha hs
end Go.Proofs.YtlmhknhlmicmeaaGreatDoor
namespace Go.Ab
def Jd:aG:=⟨[],[],iL,false,[],kE⟩
def rJ(b:Bool)(l:List ah):Bool:=match b with
 |true=>decide (l.length=5)
 |false=>decide (3<l.length)
def gF(b:Bool)(y:ah):aG:=if b=true∧y.ak.length<3 then Jd else
 ⟨cB y.ak 0,(gX y.ak 1).ak.map (dx b),dx b (gX y.ak 2),rJ b y.ak,if rJ b y.ak=true then uS y.ak 3 else [],if rJ b y.ak=true then dD b (gX y.ak 4) else kE⟩
def mQ(b:Bool)(x:ah):aZ:=
 ⟨cB x.ak 1,uS x.ak 2,decide (nR∈uS x.ak 3),decide (fJ∈uS x.ak 3),(x.ak.drop 4).map (gF b)⟩
theorem VO{g:aG}(h:fF g=true):(g.eB=true→∀v∈g.aN,v≠[])∧(g.eB=false→g.aN=[]∧g.fBody=kE):=by
 unfold fF at h
 simp only[Bool.and_eq_true] at h
 obtain⟨_,_,_,_,h3⟩:=h
 refine⟨fun hd=> ?_,fun hd=> ?_⟩
 ·rw[if_pos hd,Bool.and_eq_true] at h3
  have:=h3.2
  unfold rG at this
  rw[Bool.and_eq_true] at this
  exact I7 this.1
 ·rw[if_neg (by rw[hd];decide),Bool.and_eq_true] at h3
  exact⟨List.eq_nil_of_length_eq_zero (iH h3.1),iH h3.2⟩
theorem VP(b:Bool){g:aG}(h:fF g=true):gF b (jZ g)=g:=by
 obtain⟨h1,h2,h3⟩:=mD h
 obtain⟨h4,h5⟩:=VO h
 unfold gF
 cases hd:g.eB with
 |true=>
  rw[uT hd,if_neg (by simp)]
  have e:rJ b [bn g.fName,dn (g.aT.map dB),dB g.aW,dn (aS g.aN),dW g.fBody]=true:=by cases b<;>rfl
  rw[e,if_pos rfl,if_pos rfl]
  show aG.mk g.fName ((g.aT.map dB).map (dx b)) (dx b (dB g.aW)) true (fu (aS g.aN)) (dD b (dW g.fBody))=g
  rw[EA b h1,DK b _ h2,uf (h4 hd),I8 b _ (h3 hd),←hd]
 |false=>
  rw[uU hd,if_neg (by simp)]
  have e:rJ b [bn g.fName,dn (g.aT.map dB),dB g.aW]=false:=by cases b<;>rfl
  rw[e,if_neg (by decide),if_neg (by decide)]
  show aG.mk g.fName ((g.aT.map dB).map (dx b)) (dx b (dB g.aW)) false [] kE=g
  obtain⟨e1,e2⟩:=h5 hd
  rw[EA b h1,DK b _ h2,←e2]
  conv=>lhs;rw[←e1,←hd]
theorem Je{t:aZ}(h:cK t=true):∀v∈t.aR,v≠[]:=by
 unfold cK at h
 simp only[Bool.and_eq_true] at h
 exact I7 h.2.2.1
theorem VQ(t:aZ):∀v∈iJ t,v≠[]:=fun v hv=>by
 unfold iJ at hv
 rw[List.mem_append] at hv
 rcases hv with h|h
 ·split at h
  ·rw[List.mem_singleton.1 h];decide
  ·cases h
 ·split at h
  ·rw[List.mem_singleton.1 h];decide
  ·cases h
theorem Ic(t:aZ):decide (nR∈iJ t)=t.iO∧decide (fJ∈iJ t)=t.eO:=by
 unfold iJ
 cases t.iO<;>cases t.eO<;>exact⟨by decide,by decide⟩
theorem Fy(b:Bool){t:aZ}(h:cK t=true):mQ b (l5 t)=t:=by
 have h1:=(gB h).1
 show aZ.mk t.fName (fu (aS t.aR)) (decide (nR∈fu (aS (iJ t)))) (decide (fJ∈fu (aS (iJ t)))) ((t.aB.map jZ).map (gF b))=t
 rw[uf (Je h),uf (VQ t),(Ic t).1,(Ic t).2,Yv fun c hc=>VP b (h1 c hc)]
noncomputable def r9(x:ah):Bool:=dec (jh x=true∧(4≤x.ak.length∧cB x.ak 0=rH)∧cK (mQ true x)=true∧l5 (mQ true x)=x)
theorem VR{x:ah}(hx:x.ak≠[]):r9 x=(jh x&&dec (Ib (mQ false x)=x)):=
 abQ hx (fun a h1 h2=>by rw[←h2];exact⟨Fy true h1,Fy false h1⟩) fun a h=>by rw[←h];exact⟨by rw[l5,dX];simp[fQ],rfl⟩
theorem VT{x:ah}(h:r9 x=true):mQ false x=mQ true x:=by
 have h1:=iH h
 conv=>lhs;rw[←h1.2.2.2]
 exact Fy false h1.2.2.1
def zV:aZ:=⟨[],[],false,false,[]⟩
noncomputable def yD(x:ah):aZ:=if r9 x=true then mQ true x else zV
theorem YA(b:Bool)(l:List ah):bF ((l.map (dx b)).map aj.enc)≤dR l:=by
 have:=A8 b l
 rw[vT] at this
 rw[Au];exact this
theorem VU(b:Bool)(y:ah):(gF b y).sz≤y.sz:=by
 have h1:=Dg y.ak
 have h2:=Fx y
 have h3:=Fx (gX y.ak 0)
 have h4:=YA b (gX y.ak 1).ak
 have h4':=Fx (gX y.ak 1)
 have h5:=I6 b (gX y.ak 2)
 have h6:=yV (gX y.ak 3).ak
 have h6':=Fx (gX y.ak 3)
 have h7:=DL b (gX y.ak 4)
 unfold gF
 split
 ·simp only[Jd,aG.sz,aG.aH,bO,bN,D.sz,aj.dO,au.dO,CQ,vW,List.map_nil,bF,List.length_nil];omega
 ·cases rJ b y.ak with
  |true=>
   simp only[if_true,aG.sz,aG.aH,bO,bN,D.sz,aj.dO,au.dO,List.length_map,uS,fE,Tf]
   omega
  |false=>
   simp only[Bool.false_eq_true,if_false,aG.sz,aG.aH,bO,bN,D.sz,aj.dO,au.dO,List.length_map,vW,List.map_nil,bF,List.length_nil,Tf]
   omega
theorem Ie(b:Bool):∀l:List ah,bF ((l.map (gF b)).map aG.enc)≤dR l
 |[]=>by simp[bF]
 |y::l=>by
  have h1:=VU b y
  have h2:=Ie b l
  rw[List.map_cons,List.map_cons,bF,dR];simp only[aG.sz] at h1;omega
theorem Fz(b:Bool)(x:ah):(mQ b x).sz≤x.sz:=by
 have h1:=Yu x.ak
 have h2:=Fx x
 have h3:=Fx (gX x.ak 1)
 have h4:=yV (gX x.ak 2).ak
 have h4':=Fx (gX x.ak 2)
 have h5:=Ie b (x.ak.drop 4)
 simp only[aZ.sz,aZ.aH,bO,bN,D.sz,mQ,List.length_map,List.length_drop,uS,fE,Tf]
 omega
theorem VW:zV.sz=0:=by
 simp only[zV,aZ.sz,aZ.aH,bO,bN,D.sz,List.map_nil,bF,List.length_nil]
theorem aav{x:ah}(h:x.sz≤1048576):(yD x).sz≤1048576:=by
 have:=Fz true x
 unfold yD
 split
 ·omega
 ·rw[VW];omega
end Go.Ab
namespace Go.Ab
def VX(x:aG)(q:Nat):Nat:=q+(fU x.aT+1)
def Y2(x:aG)(q:Nat):Nat:=VX x q+(fU x.aW.fArgs+1)
def Kj(x:aG)(q:Nat):Nat:=Y2 x q+1
theorem Dh(x:aG)(q:Nat):eH x.enc q=[.s x.fName,.ol q (lt x.aT (q+1)),.i .i64 x.aW.aM,.s x.aW.fName,.ol (VX x q) (lt x.aW.fArgs (VX x q+1)),.b x.eB,.ol (Y2 x q) (x.aN.map encS),
 .i .i64 x.fBody.aM,.s x.fBody.bB,.s x.fBody.fName,.i .i64 x.fBody.fN,.i .i64 x.fBody.fType.aM,.s x.fBody.fType.fName,.ol (Kj x q) (lt x.fBody.fType.fArgs (Kj x q+1)),
 .ol (Kj x q+(fU x.fBody.fType.fArgs+1)) (lE x.fBody.fArgs (Kj x q+(fU x.fBody.fType.fArgs+1)+1)),.ol (Kj x q+(fU x.fBody.fType.fArgs+1)+(lJ x.fBody.fArgs+1)) (lM x.fBody.aK (Kj x q+(fU x.fBody.fType.fArgs+1)+(lJ x.fBody.fArgs+1)+1))]:=by
 simp only[aG.aH,au.aH,aj.aH,List.cons_append,List.nil_append,eH,lX,nU,Nat.add_zero,lt,lE,lM,fU,lJ,VX,Y2,Kj,AA,Fg,Nat.zero_add]
def YB(l:List aG)(n:Nat):List (List D):=eX (l.map aG.enc) n
abbrev aZ.cl (x:aZ) (n:Nat):List C:=[.d (.s x.fName),.d (.ol n (x.aR.map encS)),.d (.b x.iO),.d (.b x.eO),.d (.ol (n+1) (YB x.aB (n+1+1)))]
abbrev aZ.cv (x:aZ):List C:=[.d (.s x.fName),.d (.sl (x.aR.map encS)),.d (.b x.iO),.d (.b x.eO),.d (.sl (x.aB.map aG.enc))]
theorem NI(x:aZ)(n:Nat):(eH x.enc n).map C.d=x.cl n:=by
 simp only[aZ.aH,eH,lX,nU,Nat.add_zero,YB,AA,Fg,Nat.zero_add,List.map_cons,List.map_nil]
 rfl
theorem NJ(x:aZ)(n:Nat):Less (.agg (x.cl n)) x.v:=by
 have:=EO (r:=x.enc) (n:=n)
 rw[NI,aZ.oN] at this
 exact this
theorem Qn{x:ah}(h:r9 x=false):yD x=zV:=if_neg (by rw[h];decide)
theorem NK{x:ah}(h:r9 x=true):yD x=mQ true x:=if_pos h
abbrev zW:List C:=[.d (.s []),.aO [],.d (.b false),.d (.b false),.aO []]
theorem aec(e:aZ)(h:e=zV)(ok:Bool):Less (.d9 [(true,zW),(false,[.d (.b ok)])]) (.d9 [(true,e.cv),(false,[.d (.b ok)])]):=by
 rw[h]
 exact(j6.cons (.cons (.refl _) (.cons (iW _) (.cons (.refl _) (.cons (.refl _) (.cons (iW _) .nil))))) (.refl _)).less
theorem aaw(e:aZ)(h:e=zV)(n:Nat)(ok:Bool):Less (.d9 [(true,zW),(false,[.d (.b ok)])]) (.d9 [(true,e.cl n),(false,[.d (.b ok)])]):=by
 rw[h]
 exact(j6.cons (.cons (.refl _) (.cons (gy _) (.cons (.refl _) (.cons (.refl _) (.cons (gy _) .nil))))) (.refl _)).less
theorem Pw{y:ah}(h:y.ak.length=5):gF true y=⟨y.ak[0].aV,y.ak[1].ak.map (dx true),dx true y.ak[2],true,fu y.ak[3].ak,dD true y.ak[4]⟩:=by
 unfold gF
 rw[if_neg (by omega),show rJ true y.ak=true from decide_eq_true h,if_pos rfl,if_pos rfl,kL (by omega),uj (by omega:1<y.ak.length),uj (by omega:2<y.ak.length),uj (by omega:4<y.ak.length)]
 unfold uS
 rw[uj (by omega:3<y.ak.length)]
theorem Px{y:ah}(h:3≤y.ak.length)(h5:y.ak.length≠5):gF true y=⟨y.ak[0].aV,y.ak[1].ak.map (dx true),dx true y.ak[2],false,[],kE⟩:=by
 unfold gF
 rw[if_neg (by omega),show rJ true y.ak=false from decide_eq_false h5,if_neg (by decide),if_neg (by decide),kL (by omega),uj (by omega:1<y.ak.length),uj (by omega:2<y.ak.length)]
theorem Py{y:ah}(h:y.ak.length<3):gF true y=Jd:=if_pos ⟨rfl,h⟩
theorem NM{y:ah}(h:3<y.ak.length):gF false y=⟨(y.ak.getD 0 fC).aV,(y.ak.getD 1 fC).ak.map (dx false),dx false (y.ak.getD 2 fC),true,fu (y.ak.getD 3 fC).ak,dD false (y.ak.getD 4 fC)⟩:=by
 unfold gF
 rw[if_neg (by simp),show rJ false y.ak=true from decide_eq_true h];rfl
theorem NN{y:ah}(h:¬3<y.ak.length):gF false y=⟨(y.ak.getD 0 fC).aV,(y.ak.getD 1 fC).ak.map (dx false),dx false (y.ak.getD 2 fC),false,[],kE⟩:=by
 unfold gF
 rw[if_neg (by simp),show rJ false y.ak=false from decide_eq_false h];rfl
theorem Tk:kE.enc=[.i .i64 0,.s [],.s [],.i .i64 0,.i .i64 0,.s [],.sl [],.sl [],.sl []]:=by
 rw[au.aH];rfl
theorem y5(x:ah){m:Nat}(h:x.sz≤m):(fu x.ak).length≤m:=by
 have:=(yV x.ak).1
 have:=gL x
 omega
end Go.Ab
namespace Go.Proofs.YtlmhknhlmicmeaaGreatDoor
open Go Go.Ab
theorem NP(x:ah)(hsz:x.sz≤1048576):aI Tryz.prog 37 [x.v] (.d9 [(true,(yD x).cv),(false,[.d (.b (r9 x))])]):=aI.of_le fun S=>by
 have h1:=gL x
 have hds:=Fz false x
 have hos:=Yw (x:=mQ false x) (by omega)
 have hgs:=fun i=>Bc x i (m:=4194304) (by omega)
 obtain⟨l,hl⟩:∃l,l=x.ak.drop 4:=⟨_,rfl⟩
 have hll:l.length≤4194304:=by rw[hl,List.length_drop];omega
 have hlm:∀y∈l,y.sz≤4194304:=fun y hy=>by have:=j4 (List.mem_of_mem_drop (hl▸hy));omega
 obtain⟨F,hF⟩:∃F,F=mQ false x:=⟨_,rfl⟩
 have f1:F.fName=(x.ak.getD 1 fC).aV:=by rw[hF];rfl
 have f2:F.aR=fu (x.ak.getD 2 fC).ak:=by rw[hF];rfl
 have f3:F.iO=dec (nR∈fu (x.ak.getD 3 fC).ak):=by rw[hF,←iN];rfl
 have f4:F.eO=dec (fJ∈fu (x.ak.getD 3 fC).ak):=by rw[hF,←iN];rfl
 obtain⟨T,hT⟩:∃T:Nat→List (List D),T=fun i=>((l.map (gF false)).take i).map aG.enc:=⟨_,rfl⟩
 have hT0:T 0=[]:=by rw[hT];rfl
 have lV:∀i,(T i).length≤i:=fun i=>by rw[hT];simp only[List.length_map];exact List.length_take_le _ _
 have hTs:∀i (hi:i<l.length),T i++[(gF false l[i]).enc]=T (i+1):=fun i hi=>by
  have:=Ti (e:=aG.enc) (l:=l.map (gF false)) (i:=i) (by rw[List.length_map];exact hi)
  rw[List.getElem_map] at this
  rw[hT];exact this
 have hTe:T l.length=F.aB.map aG.enc:=by
  rw[hT];simp only
  rw[List.take_of_length_le (by simp),hF,hl];rfl
 clear hT
 have Bj:r9 x=false→Less (.d9 [(true,zW),(false,[.d (.b false)])]) (.d9 [(true,(yD x).cv),(false,[.d (.b (r9 x))])]):=fun e=>by
  rw[e];exact aec _ (Qn e) false
 have c2:=yx _ (hgs 2)
 have c3:=nI (fu (x.ak.getD 3 fC).ak) nR (by have:=y5 _ (hgs 3);omega)
 have c4:=nI (fu (x.ak.getD 3 fC).ak) fJ (by have:=y5 _ (hgs 3);omega)
 rw[←f2] at c2
 rw[←f3] at c3
 rw[←f4] at c4
 refine aF (rs:=[.cell 2 85,.tmp 3]) Tryz.checked.mixed Tryz.func37 Tryz.ntmps37 rfl rfl rfl rfl rfl ?_
 simp -implicitDefEqProofs (disch:=omega) only[go_sem]
 refine ay (oD x 3 (by omega) (by omega)) ?_
 simp -implicitDefEqProofs (disch:=omega) only[go_sem]
 refine ay (yx _ (hgs 3)) ?_
 simp -implicitDefEqProofs (disch:=omega) only[go_sem]
 refine ay (oD x 1 (by omega) (by omega)) ?_
 simp -implicitDefEqProofs (disch:=omega) only[go_sem]
 refine ay (oD x 2 (by omega) (by omega)) ?_
 simp -implicitDefEqProofs (disch:=omega) only[go_sem]
 refine ay c2 ?_
 simp -implicitDefEqProofs (disch:=omega) only[go_sem]
 refine ay c3 ?_
 simp -implicitDefEqProofs (disch:=omega) only[go_sem]
 refine ay c4 ?_
 simp -implicitDefEqProofs (disch:=omega) only[go_sem]
 (repeat(with_reducible refine And.intro ?_ ?_;focus first|omega|rfl|assumption|exact⟨_,rfl,rfl⟩|(simp;omega)|(simp;done)))
 refine ay (O8 x 4 (by omega)) ?_
 simp -implicitDefEqProofs (disch:=omega) only[go_sem]
 rw[←hl,←f1]
 refine JX 2 4 16 _ rfl rfl ?_
 refine aX (ι:=Nat) Tryz.checked.mixed rfl [1,2,5,6,7] (fun i=>[.c (.ptr (0,0) 0),.c (.ptr (0,1) 0),.c (.ptr (0,2) 0),.c (.d (.sl (l.map ah.enc))),.c (.d (.i .i64 i))])
  (fun i=>[.box [.d (.s x.aV),.d (.sl (x.ak.map ah.enc))],.box zW,.box [.d (.s F.fName),.d (.sl (F.aR.map encS)),.d (.b F.iO),.d (.b F.eO),.bL (0,3) (T i)],.tok 16 (T i)]::S)
  (fun i=>i≤l.length) (fun i=>l.length-i) 0 rfl (by rw[hT0];rfl) (Nat.zero_le _) ?_
 intro i hi
 have hl':=lV i
 simp -implicitDefEqProofs (disch:=omega) only[go_sem]
 with_reducible refine aA (fun hb=> ?_) (fun hb=> ?_)<;>have h:=hb<;>(try simp only[wf_preprocess] at h)<;>simp -implicitDefEqProofs (disch:=omega) only[go_sem,hb]<;>(repeat(with_reducible refine And.intro ?_ ?_;focus first|omega|rfl|assumption|exact⟨_,rfl,rfl⟩|(simp;omega)|(simp;done)))
 ·have hi':i<l.length:=by omega
  have hz:=hlm _ (List.getElem_mem hi')
  have hs:=hTs i hi'
  have hg:=fun k=>Bc l[i] k hz
  have hg1:=hg 1
  have agP:=gL (l[i].ak.getD 1 fC)
  have hz1:=gL l[i]
  (repeat(with_reducible refine And.intro ?_ ?_;focus first|omega|rfl|assumption|exact⟨_,rfl,rfl⟩|(simp;omega)|(simp;done)))
  refine ay (oD l[i] 0 hz (by omega)) ?_
  simp -implicitDefEqProofs (disch:=omega) only[go_sem]
  (repeat(with_reducible refine And.intro ?_ ?_;focus first|omega|rfl|assumption|exact⟨_,rfl,rfl⟩|(simp;omega)|(simp;done)))
  refine ay (oD l[i] 1 hz (by omega)) ?_
  simp -implicitDefEqProofs (disch:=omega) only[go_sem]
  refine ay (KE (l[i].ak.getD 1 fC).ak (by omega) (fun t ht=>by have:=j4 ht;omega)) ?_
  simp -implicitDefEqProofs (disch:=omega) only[go_sem]
  (repeat(with_reducible refine And.intro ?_ ?_;focus first|omega|rfl|assumption|exact⟨_,rfl,rfl⟩|(simp;omega)|(simp;done)))
  refine ay (oD l[i] 2 hz (by omega)) ?_
  simp -implicitDefEqProofs (disch:=omega) only[go_sem]
  refine ay (yA (l[i].ak.getD 2 fC) (hg 2)) ?_
  simp -implicitDefEqProofs (disch:=omega) only[go_sem]
  (repeat(with_reducible refine And.intro ?_ ?_;focus first|omega|rfl|assumption|exact⟨_,rfl,rfl⟩|(simp;omega)|(simp;done)))
  with_reducible refine aA (fun hb=> ?_) (fun hb=> ?_)<;>have h:=hb<;>(try simp only[wf_preprocess] at h)<;>simp -implicitDefEqProofs (disch:=omega) only[go_sem,hb]<;>(repeat(with_reducible refine And.intro ?_ ?_;focus first|omega|rfl|assumption|exact⟨_,rfl,rfl⟩|(simp;omega)|(simp;done)))
  ·rw[NM (by omega)] at hs
   simp only[aG.aH,au.aH,aj.aH,List.cons_append,List.nil_append] at hs
   (repeat(with_reducible refine And.intro ?_ ?_;focus first|omega|rfl|assumption|exact⟨_,rfl,rfl⟩|(simp;omega)|(simp;done)))
   refine ay (oD l[i] 3 hz (by omega)) ?_
   simp -implicitDefEqProofs (disch:=omega) only[go_sem]
   refine ay (yx _ (hg 3)) ?_
   simp -implicitDefEqProofs (disch:=omega) only[go_sem]
   (repeat(with_reducible refine And.intro ?_ ?_;focus first|omega|rfl|assumption|exact⟨_,rfl,rfl⟩|(simp;omega)|(simp;done)))
   refine ay (oD l[i] 4 hz (by omega)) ?_
   simp -implicitDefEqProofs (disch:=omega) only[go_sem]
   refine ay (Ph (l[i].ak.getD 4 fC) (hg 4)) ?_
   simp -implicitDefEqProofs (disch:=omega) only[go_sem]
   (repeat(with_reducible refine And.intro ?_ ?_;focus first|omega|rfl|assumption|exact⟨_,rfl,rfl⟩|(simp;omega)|(simp;done)))
   rw[hs]
   exact dA 4 (by decide) (i+1) (by omega) rfl rfl rfl rfl (by omega)
  ·rw[NN (by omega)] at hs
   simp only[aG.aH,Tk,aj.aH,List.cons_append,List.nil_append,List.map_nil] at hs
   (repeat(with_reducible refine And.intro ?_ ?_;focus first|omega|rfl|assumption|exact⟨_,rfl,rfl⟩|(simp;omega)|(simp;done)))
   rw[hs]
   exact dA 4 (by decide) (i+1) (by omega) rfl rfl rfl rfl (by omega)
 ·have hi':i=l.length:=by omega
  subst hi'
  rw[hTe]
  clear hTs
  refine ay (wC x (by omega)) ?_
  simp -implicitDefEqProofs (disch:=omega) only[go_sem]
  with_reducible refine aA (fun hb=> ?_) (fun hb=> ?_)<;>have h:=hb<;>(try simp only[wf_preprocess] at h)<;>simp -implicitDefEqProofs (disch:=omega) only[go_sem,hb]<;>(repeat(with_reducible refine And.intro ?_ ?_;focus first|omega|rfl|assumption|exact⟨_,rfl,rfl⟩|(simp;omega)|(simp;done)))
  ·exact Bj (aL fun e=>by rw[e.1] at h;cases h)
  have hv:=h
  with_reducible refine aA (fun hb=> ?_) (fun hb=> ?_)<;>have h:=hb<;>(try simp only[wf_preprocess] at h)<;>simp -implicitDefEqProofs (disch:=omega) only[go_sem,hb]<;>(repeat(with_reducible refine And.intro ?_ ?_;focus first|omega|rfl|assumption|exact⟨_,rfl,rfl⟩|(simp;omega)|(simp;done)))
  ·exact Bj (aL fun e=>by omega)
  have hne:x.ak≠[]:=fun e=>by rw[e] at h;exact h rfl
  have hok:=VR hne
  rw[hv,Bool.true_and] at hok
  rw[←hF] at hok hos hds
  (repeat(with_reducible refine And.intro ?_ ?_;focus first|omega|rfl|assumption|exact⟨_,rfl,rfl⟩|(simp;omega)|(simp;done)))
  refine ay (VN F (by omega)) ?_
  simp -implicitDefEqProofs (disch:=omega) only[go_sem]
  refine ay (DY (Ib F) x (by omega)) ?_
  simp -implicitDefEqProofs (disch:=omega) only[go_sem]
  with_reducible refine aA (fun hb=> ?_) (fun hb=> ?_)<;>have h:=hb<;>(try simp only[wf_preprocess] at h)<;>simp -implicitDefEqProofs (disch:=omega) only[go_sem,hb]<;>(repeat(with_reducible refine And.intro ?_ ?_;focus first|omega|rfl|assumption|exact⟨_,rfl,rfl⟩|(simp;omega)|(simp;done)))
  ·exact Bj (by rw[hok];exact aL h)
  ·have hy:r9 x=true:=by rw[hok];exact bC h
   rw[NK hy,hy,←VT hy,←hF]
   exact iw _
theorem FB(x:ah)(n:Nat)(hfo:gY x=true)(hlen:4≤x.ak.length)(hsz:x.sz≤1048576):aI Tryz.prog 138 [x.v] (.agg ((mQ true x).cl n)):=aI.of_le fun S=>by
 have h1:=gL x
 obtain⟨F,hF⟩:∃F,F=mQ true x:=⟨_,rfl⟩
 have hr:=iy (l:=x.ak)
 have hzs:=fun i hi=>Ia x (i:=i) hi
 have hz2:=hzs 2 (by omega)
 have hz3:=hzs 3 (by omega)
 have f1:F.fName=x.ak[1].aV:=by rw[hF];exact kL (by omega)
 have f2:F.aR=fu x.ak[2].ak:=by rw[hF,←uj (l:=x.ak) (i:=2) (by omega)];rfl
 have f3:F.iO=dec (nR∈fu x.ak[3].ak):=by rw[hF,←iN,←uj (l:=x.ak) (i:=3) (by omega)];rfl
 have f4:F.eO=dec (fJ∈fu x.ak[3].ak):=by rw[hF,←iN,←uj (l:=x.ak) (i:=3) (by omega)];rfl
 obtain⟨l,hl⟩:∃l,l=x.ak.drop 4:=⟨_,rfl⟩
 have hll:l.length≤4194304:=by rw[hl,List.length_drop];omega
 have hlm:∀y∈l,y.sz≤1048576∧gY y=true:=fun y hy=>by
  have h2:=List.mem_of_mem_drop (hl▸hy)
  have:=j4 h2
  exact⟨by omega,rZ (C8 hfo (fun e=>by rw[e] at h2;cases h2)) h2⟩
 obtain⟨L,hL⟩:∃L:Nat→Nat,L=fun i=>n+1+1+jU (((l.map (gF true)).take i).map aG.enc):=⟨_,rfl⟩
 obtain⟨T,hT⟩:∃T:Nat→List (List D),T=fun i=>eX (((l.map (gF true)).take i).map aG.enc) (n+1+1):=⟨_,rfl⟩
 have hT0:T 0=[]:=by rw[hT];rfl
 have lV:∀i,(T i).length≤i:=fun i=>by rw[hT];simp only[jV,List.length_map];exact List.length_take_le _ _
 have hTr:∀i,∀r∈T i,r.length=16:=fun i=>by
  rw[hT]
  exact Av fun r hr=>by
   obtain⟨z,_,rfl⟩:=List.mem_map.1 hr
   exact z.bG
 have hTs:∀i (hi:i<l.length),T i++[eH (gF true l[i]).enc (L i)]=T (i+1):=fun i hi=>by
  have:=Po (e:=aG.enc) (l:=l.map (gF true)) (i:=i) (by rw[List.length_map];exact hi) (n+1+1)
  rw[List.getElem_map] at this
  rw[hT,hL];exact this
 have hTe:T l.length=YB F.aB (n+1+1):=by
  rw[hT];simp only
  rw[List.take_of_length_le (by simp),hF,hl];rfl
 clear hT hL
 have c2:=wF x.ak[2] (by omega) n
 have c3:=mK (fu x.ak[3].ak) nR (by have:=y5 _ hz3;omega)
 have c4:=mK (fu x.ak[3].ak) fJ (by have:=y5 _ hz3;omega)
 rw[←f2] at c2
 rw[←f3] at c3
 rw[←f4] at c4
 rw[←hF]
 refine l8 (n) (rs:=[.cell 2 85]) Tryz.checked.mixed Tryz.func138 Tryz.ntmps138 rfl rfl rfl rfl rfl ?_
 simp -implicitDefEqProofs (disch:=omega) only[go_sem]
 (repeat(with_reducible refine And.intro ?_ ?_;focus first|omega|rfl|assumption|exact⟨_,rfl,rfl⟩|(simp;omega)|(simp;done)))
 refine ay (wF x.ak[3] (by omega) 0) ?_
 simp -implicitDefEqProofs (disch:=omega) only[go_sem]
 (repeat(with_reducible refine And.intro ?_ ?_;focus first|omega|rfl|assumption|exact⟨_,rfl,rfl⟩|(simp;omega)|(simp;done)))
 refine ay c2 ?_
 simp -implicitDefEqProofs (disch:=omega) only[go_sem]
 refine vP c3 (.cons (DU _ _) (.cons (iw _) .nil)) ?_
 simp -implicitDefEqProofs (disch:=omega) only[go_sem]
 refine vP c4 (.cons (DU _ _) (.cons (iw _) .nil)) ?_
 simp -implicitDefEqProofs (disch:=omega) only[go_sem]
 refine⟨⟨by omega,by omega,hr⟩,?_⟩
 rw[qM _ _ _ (Nat.le_refl _),←hl,←f1]
 simp -implicitDefEqProofs (disch:=omega) only[go_sem]
 refine Hg (n+1) 3 4 16 _ rfl rfl ?_
 refine aX (ι:=Nat×List (List D)) Tryz.checked.mixed rfl [2,4,30,31,32] (fun y=>[.c (.ptr (0,2) 0),.c (.ptr (0,3) 0),.c (.d (.sl (l.map ah.enc))),.c (.d (.i .i64 l.length)),.c (.d (.i .i64 y.1))])
  (fun y=>[.seed n,.box [.d (.s x.aV),.d (.sl (x.ak.map ah.enc))],.box zW,.box [.d (.s F.fName),.d (.ol n (F.aR.map encS)),.d (.b F.iO),.d (.b F.eO),.bL (0,4) y.2],.eP (n+1) 16 y.2]::S)
  (fun y=>y.1≤l.length∧gW y.2 (T y.1)) (fun y=>l.length-y.1) (0,[]) rfl rfl ⟨Nat.zero_le _,by rw[hT0];exact .nil⟩ ?_
 rintro⟨i,U⟩ ⟨p1,p2⟩
 simp only at p1 p2
 have hU1:=p2.length
 have hU2:=lV i
 have hU3:=p2.rows (hTr i)
 simp -implicitDefEqProofs (disch:=omega) only[go_sem]
 with_reducible refine aA (fun hb=> ?_) (fun hb=> ?_)<;>have h:=hb<;>(try simp only[wf_preprocess] at h)<;>simp -implicitDefEqProofs (disch:=omega) only[go_sem,hb]<;>(repeat(with_reducible refine And.intro ?_ ?_;focus first|omega|rfl|assumption|exact⟨_,rfl,rfl⟩|(simp;omega)|(simp;done)))
 ·have hi':i<l.length:=by omega
  obtain⟨hz,hfy⟩:=hlm _ (List.getElem_mem hi')
  have hs:=hTs i hi'
  have hz1:=gL l[i]
  (repeat(with_reducible refine And.intro ?_ ?_;focus first|omega|rfl|assumption|exact⟨_,rfl,rfl⟩|(simp;omega)|(simp;done)))
  with_reducible refine aA (fun hb=> ?_) (fun hb=> ?_)<;>have h:=hb<;>(try simp only[wf_preprocess] at h)<;>simp -implicitDefEqProofs (disch:=omega) only[go_sem,hb]<;>(repeat(with_reducible refine And.intro ?_ ?_;focus first|omega|rfl|assumption|exact⟨_,rfl,rfl⟩|(simp;omega)|(simp;done)))
  ·have hl3:3≤l[i].ak.length:=by omega
   have hy1:=Ia l[i] (i:=1) (by omega)
   have agQ:=gL l[i].ak[1]
   have hy2:=Ia l[i] (i:=2) (by omega)
   (repeat(with_reducible refine And.intro ?_ ?_;focus first|omega|rfl|assumption|exact⟨_,rfl,rfl⟩|(simp;omega)|(simp;done)))
   refine ay (Ja l[i].ak[1].ak (L i) (L i+1) (by omega) (fun t ht=>by have:=j4 ht;omega)) ?_
   simp -implicitDefEqProofs (disch:=omega) only[go_sem]
   (repeat(with_reducible refine And.intro ?_ ?_;focus first|omega|rfl|assumption|exact⟨_,rfl,rfl⟩|(simp;omega)|(simp;done)))
   refine ay (BH l[i].ak[2] (VX (gF true l[i]) (L i)) (by omega)) ?_
   simp -implicitDefEqProofs (disch:=omega) only[go_sem]
   (repeat(with_reducible refine And.intro ?_ ?_;focus first|omega|rfl|assumption|exact⟨_,rfl,rfl⟩|(simp;omega)|(simp;done)))
   with_reducible refine aA (fun hb=> ?_) (fun hb=> ?_)<;>have h:=hb<;>(try simp only[wf_preprocess] at h)<;>simp -implicitDefEqProofs (disch:=omega) only[go_sem,hb]<;>(repeat(with_reducible refine And.intro ?_ ?_;focus first|omega|rfl|assumption|exact⟨_,rfl,rfl⟩|(simp;omega)|(simp;done)))
   ·have hl5:l[i].ak.length=5:=by omega
    have hy3:=Ia l[i] (i:=3) (by omega)
    have hy4:=Ia l[i] (i:=4) (by omega)
    have hd:=Pw hl5
    (repeat(with_reducible refine And.intro ?_ ?_;focus first|omega|rfl|assumption|exact⟨_,rfl,rfl⟩|(simp;omega)|(simp;done)))
    refine ay (wF l[i].ak[3] (by omega) (Y2 (gF true l[i]) (L i))) ?_
    simp -implicitDefEqProofs (disch:=omega) only[go_sem]
    (repeat(with_reducible refine And.intro ?_ ?_;focus first|omega|rfl|assumption|exact⟨_,rfl,rfl⟩|(simp;omega)|(simp;done)))
    refine ay (Nu l[i].ak[4] (Kj (gF true l[i]) (L i)) (aau hfy (by omega)) (by omega)) ?_
    simp -implicitDefEqProofs (disch:=omega) only[go_sem]
    (repeat(with_reducible refine And.intro ?_ ?_;focus first|omega|rfl|assumption|exact⟨_,rfl,rfl⟩|(simp;omega)|(simp;done)))
    rw[Dh] at hs
    obtain⟨g,hg⟩:∃g,g=gF true l[i]:=⟨_,rfl⟩
    rw[←hg] at hs hd ⊢
    have e1:g.fName=l[i].ak[0].aV:=by rw[hd]
    have e2:g.aT=l[i].ak[1].ak.map (dx true):=by rw[hd]
    have e3:g.aW=dx true l[i].ak[2]:=by rw[hd]
    have e4:g.eB=true:=by rw[hd]
    have e5:g.aN=fu l[i].ak[3].ak:=by rw[hd]
    have e6:g.fBody=dD true l[i].ak[4]:=by rw[hd]
    rw[e1,e2,e3,e4,e5,e6] at hs
    refine dA 5 (by decide) (i+1,_) (by simp only;omega) rfl rfl rfl rfl ⟨by simp only;omega,?_⟩
    simp only
    rw[←hs]
    exact p2.snoc (.refl _)
   ·have hd:=Px hl3 (by omega)
    (repeat(with_reducible refine And.intro ?_ ?_;focus first|omega|rfl|assumption|exact⟨_,rfl,rfl⟩|(simp;omega)|(simp;done)))
    rw[Dh] at hs
    obtain⟨g,hg⟩:∃g,g=gF true l[i]:=⟨_,rfl⟩
    rw[←hg] at hs hd ⊢
    have e1:g.fName=l[i].ak[0].aV:=by rw[hd]
    have e2:g.aT=l[i].ak[1].ak.map (dx true):=by rw[hd]
    have e3:g.aW=dx true l[i].ak[2]:=by rw[hd]
    have e4:g.eB=false:=by rw[hd]
    have e5:g.aN=[]:=by rw[hd]
    have e6:g.fBody=kE:=by rw[hd]
    rw[e1,e2,e3,e4,e5,e6] at hs
    refine dA 5 (by decide) (i+1,_) (by simp only;omega) rfl rfl rfl rfl ⟨by simp only;omega,?_⟩
    simp only
    rw[←hs]
    exact p2.snoc (.cons (.refl _) (.cons (.refl _) (.cons (.refl _) (.cons (.refl _) (.cons (.refl _) (.cons (.refl _) (.cons (pX _) (.cons (.refl _) (.cons (.refl _) (.cons (.refl _) (.cons (.refl _) (.cons (.refl _) (.cons (.refl _) (.cons (pX _) (.cons (pX _) (.cons (pX _) .nil))))))))))))))))
  ·have hd:=Py (y:=l[i]) (by omega)
   with_reducible refine aA (fun hb=> ?_) (fun hb=> ?_)<;>have h:=hb<;>(try simp only[wf_preprocess] at h)<;>simp -implicitDefEqProofs (disch:=omega) only[go_sem,hb]<;>(repeat(with_reducible refine And.intro ?_ ?_;focus first|omega|rfl|assumption|exact⟨_,rfl,rfl⟩|(simp;omega)|(simp;done)))
   ·omega
   ·(repeat(with_reducible refine And.intro ?_ ?_;focus first|omega|rfl|assumption|exact⟨_,rfl,rfl⟩|(simp;omega)|(simp;done)))
    rw[hd,Dh] at hs
    refine dA 5 (by decide) (i+1,_) (by simp only;omega) rfl rfl rfl rfl ⟨by simp only;omega,?_⟩
    simp only
    rw[←hs]
    exact p2.snoc (.cons (.refl _) (.cons (pX _) (.cons (.refl _) (.cons (.refl _) (.cons (pX _) (.cons (.refl _) (.cons (pX _) (.cons (.refl _) (.cons (.refl _) (.cons (.refl _) (.cons (.refl _) (.cons (.refl _) (.cons (.refl _) (.cons (pX _) (.cons (pX _) (.cons (pX _) .nil))))))))))))))))
 ·have hi':i=l.length:=by omega
  subst hi'
  rw[hTe] at p2
  exact(dZ.cons (.refl _) (.cons (.refl _) (.cons (.refl _) (.cons (.refl _) (.cons (Tg p2) .nil))))).less
theorem KJ(x:ah)(n:Nat)(hsz:x.sz≤1048576):aI Tryz.prog 38 [x.v] (.d9 [(true,(yD x).cl n),(false,[.d (.b (r9 x))])]):=aI.of_le fun S=>by
 have hds:=Fz true x
 have Bj:r9 x=false→Less (.d9 [(true,zW),(false,[.d (.b false)])]) (.d9 [(true,(yD x).cl n),(false,[.d (.b (r9 x))])]):=fun e=>by
  rw[e];exact aaw _ (Qn e) n false
 refine aF (rs:=[.cell 2 85,.tmp 3]) Tryz.checked.mixed Tryz.func38 Tryz.ntmps38 rfl rfl rfl rfl rfl ?_
 simp -implicitDefEqProofs (disch:=omega) only[go_sem]
 refine ay (Sw x rH 4 (by omega) (by omega) (by omega)) ?_
 simp -implicitDefEqProofs (disch:=omega) only[go_sem]
 with_reducible refine aA (fun hb=> ?_) (fun hb=> ?_)<;>have h:=hb<;>(try simp only[wf_preprocess] at h)<;>simp -implicitDefEqProofs (disch:=omega) only[go_sem,hb]<;>(repeat(with_reducible refine And.intro ?_ ?_;focus first|omega|rfl|assumption|exact⟨_,rfl,rfl⟩|(simp;omega)|(simp;done)))
 ·exact Bj (aL fun e=>h ⟨e.1,e.2.1.1,e.2.1.2⟩)
 have hf:=h
 have hvx:=JE hf.1
 have hfo:gY x=true:=by have:=hf.1;unfold jh at this;rw[Bool.and_eq_true] at this;exact this.1
 refine ay (FB x n hfo hf.2.1 (by omega)) ?_
 simp -implicitDefEqProofs (disch:=omega) only[go_sem]
 refine vP (D6 (mQ true x) (by omega)) (.cons (NJ _ n) .nil) ?_
 simp -implicitDefEqProofs (disch:=omega) only[go_sem]
 with_reducible refine aA (fun hb=> ?_) (fun hb=> ?_)<;>have h:=hb<;>(try simp only[wf_preprocess] at h)<;>simp -implicitDefEqProofs (disch:=omega) only[go_sem,hb]<;>(repeat(with_reducible refine And.intro ?_ ?_;focus first|omega|rfl|assumption|exact⟨_,rfl,rfl⟩|(simp;omega)|(simp;done)))
 ·exact Bj (aL fun e=>by rw[e.2.2.1] at h;cases h)
 have hv:=h
 have hz:=DV hv
 (repeat(with_reducible refine And.intro ?_ ?_;focus first|omega|rfl|assumption|exact⟨_,rfl,rfl⟩|(simp;omega)|(simp;done)))
 refine vP (aI.less (KI (mQ true x) 0 hv (by omega)) (aae (l5 (mQ true x)) 0)) (.cons (NJ _ n) .nil) ?_
 simp -implicitDefEqProofs (disch:=omega) only[go_sem]
 refine ay (DZ (l5 (mQ true x)) x (by omega)) ?_
 simp -implicitDefEqProofs (disch:=omega) only[go_sem]
 with_reducible refine aA (fun hb=> ?_) (fun hb=> ?_)<;>have h:=hb<;>(try simp only[wf_preprocess] at h)<;>simp -implicitDefEqProofs (disch:=omega) only[go_sem,hb]<;>(repeat(with_reducible refine And.intro ?_ ?_;focus first|omega|rfl|assumption|exact⟨_,rfl,rfl⟩|(simp;omega)|(simp;done)))
 ·exact Bj (aL fun e=>h e.2.2.2)
 ·have hy:r9 x=true:=bC ⟨hf.1,hf.2,hv,h⟩
  rw[NK hy,hy]
  exact iw _
theorem Jf(x:ah)(n:Nat)(hsz:x.sz≤1048576):aI Tryz.prog 38 [x.v] (.d9 [(true,(eH (yD x).enc n).map .d),(false,[.d (.b (r9 x))])]):=by
 rw[NI];exact KJ x n hsz
end Go.Proofs.YtlmhknhlmicmeaaGreatDoor
namespace Go.Proofs.YtlmhknhlmicmeaaGreatDoor
open Go Go.Ab
end Go.Proofs.YtlmhknhlmicmeaaGreatDoor
namespace Go.Proofs.YtlmhknhlmicmeaaGreatDoor
open Go Go.Ab
end Go.Proofs.YtlmhknhlmicmeaaGreatDoor
namespace Go.Proofs.YtlmhknhlmicmeaaGreatDoor
open Go Go.Ab
end Go.Proofs.YtlmhknhlmicmeaaGreatDoor
namespace Go.Proofs.YtlmhknhlmicmeaaGreatDoor
open Go Go.Ab
end Go.Proofs.YtlmhknhlmicmeaaGreatDoor
namespace Go.Proofs.YtlmhknhlmicmeaaGreatDoor
open Go Go.Ab
end Go.Proofs.YtlmhknhlmicmeaaGreatDoor
namespace Go.Proofs.YtlmhknhlmicmeaaGreatDoor
open Go Go.Ab
end Go.Proofs.YtlmhknhlmicmeaaGreatDoor
namespace Go.Proofs.YtlmhknhlmicmeaaGreatDoor
open Go Go.Ab
theorem Di:∀N:Nat,(∀x:ah,SizeOf.sizeOf x<N→∀n:Nat,x.sz≤1048576→aI Tryz.prog 28 [x.v] (.agg ((eH x.enc n).map .d)))∧
 (∀xs:List ah,SizeOf.sizeOf xs<N→∀n:Nat,xs.length+bF (xs.map ah.enc)≤1048576→aI Tryz.prog 109 [.c (.d (.sl (xs.map ah.enc)))] (.c (.d (lX (.sl (xs.map ah.enc)) n))))
 |0=>⟨fun x h=>by omega,fun x h=>by omega⟩
 |N+1=>by
  obtain⟨nZ,rV⟩:=Di N
  refine⟨fun x hn n hsz=> ?_,fun xs hn n hsz=> ?_⟩
  ·intro S
   have Gq:=ah.kK x
   simp only[ah.sz,ah.aH,bO,bN,D.sz,List.length_map] at hsz
   refine aF (rs:=[.cell 2 32]) Tryz.checked.mixed Tryz.func28 Tryz.ntmps28 rfl rfl rfl rfl rfl ?_
   simp only[ah.aH,encS,encI,List.cons_append,List.nil_append,eH,lX,nV,nU,List.map_cons,List.map_nil,Nat.add_zero]
   simp -implicitDefEqProofs (disch:=omega) only[go_sem]
   refine ay (rV x.ak (by omega) (n) (by omega)) ?_
   simp -implicitDefEqProofs (disch:=omega) only[go_sem,lX]
   all_goals (first|rfl|(simp only[Nat.add_assoc];done))
  ·obtain⟨T,hT⟩:∃T,T=eX (xs.map ah.enc) (n+1):=⟨_,rfl⟩
   have lV:T.length=xs.length:=by rw[hT,jV,List.length_map]
   show aI Tryz.prog 109 [.c (.d (.sl (xs.map ah.enc)))] (.c (.d (.ol n (eX (xs.map ah.enc) (n+1)))))
   rw[←hT]
   intro S
   refine l8 (n) (rs:=[.tmp 2]) Tryz.checked.mixed Tryz.func109 Tryz.ntmps109 rfl rfl rfl rfl rfl ?_
   simp -implicitDefEqProofs (disch:=omega) only[go_sem]
   (repeat(with_reducible refine And.intro ?_ ?_;focus first|omega|rfl|assumption|exact⟨_,rfl,rfl⟩|(simp;omega)|(simp;done)))
   refine aX (ι:=Nat×List (List D)) Tryz.checked.mixed rfl [0,3,4] (fun y=>[.c (.d (.sl (xs.map ah.enc))),.c (.kg (0,1)),.c (.d (.i .i64 y.1))]) (fun y=>[.seed n,.fG 2 y.2]::S)
    (fun y=>y.1≤xs.length∧qC 2 y.1 y.2 T) (fun y=>xs.length-y.1) (0,_) rfl rfl ⟨Nat.zero_le _,qC.start (by simp[lV]) rfl⟩ ?_
   rintro⟨i,R⟩ ⟨p1,p2⟩
   simp only at p1 p2
   simp -implicitDefEqProofs (disch:=omega) only[go_sem]
   with_reducible refine aA (fun hb=> ?_) (fun hb=> ?_)<;>have h:=hb<;>(try simp only[wf_preprocess] at h)<;>simp -implicitDefEqProofs (disch:=omega) only[go_sem,hb]<;>(repeat(with_reducible refine And.intro ?_ ?_;focus first|omega|rfl|assumption|exact⟨_,rfl,rfl⟩|(simp;omega)|(simp;done)))
   ·have hi:i<xs.length:=by omega
    have hir:i<(xs.map ah.enc).length:=by rw[List.length_map];exact hi
    have hR:=p2.1
    rw[lV] at hR
    have hTi:T[i]? =some (eH (ah.enc xs[i]) (n+1+jU ((xs.map ah.enc).take i))):=by
     rw[hT,MP hir,List.getElem_map]
    have hx:xs[i].sz≤bF (xs.map ah.enc):=dP (List.mem_map_of_mem (List.getElem_mem hi))
    (repeat(with_reducible refine And.intro ?_ ?_;focus first|omega|rfl|assumption|exact⟨_,rfl,rfl⟩|(simp;omega)|(simp;done)))
    refine ay (nZ xs[i] (by have:=List.sizeOf_lt_of_mem (List.getElem_mem hi);omega) (n+1+jU ((xs.map ah.enc).take i)) (by omega)) ?_
    obtain⟨row,hrow⟩:∃row,row=eH (ah.enc xs[i]) (n+1+jU ((xs.map ah.enc).take i)):=⟨_,rfl⟩
    have hrl:row.length=2:=by rw[hrow,fP,ah.bG]
    rw[←hrow] at hTi ⊢
    simp -implicitDefEqProofs (disch:=omega) only[go_sem,hrl,MQ]
    (repeat(with_reducible refine And.intro ?_ ?_;focus first|omega|rfl|assumption|exact⟨_,rfl,rfl⟩|(simp;omega)|(simp;done)))
    refine bI (i+1,_) (by simp only;omega) rfl rfl ⟨by simp only;omega,p2.step hTi hrl⟩
   ·have hi:i=xs.length:=by omega
    rw[p2.done (by omega)]
theorem Pz(x:ah):∀n:Nat,x.sz≤1048576→aI Tryz.prog 28 [x.v] (.agg ((eH x.enc n).map .d)):=(Di _).1 x (Nat.lt_succ_self _)
end Go.Proofs.YtlmhknhlmicmeaaGreatDoor
namespace Go.Proofs.YtlmhknhlmicmeaaGreatDoor
open Go Go.Ab
theorem uW(xs:List (List UInt8)):∀(k:Int) (l j r:Nat) (p:List (Nat×Nat)) (S:Store) (rs:List (List (List D))),aU S (l,j)=some (.xf rs)→atR rs r p=some (xs.map encS)→0≤k∧k+aC (xs.map encS)≤4611686018427387904→bD Tryz.prog 82 [.c (.xp (l,j) r p),.c (.d (.i .i64 k))] S (fun res S'=>res=.c (.d (.i .i64 (k+aC (xs.map encS))))∧S'=aY S (l,j) (.xf (dN rs r p (cZ (xs.map encS) k)))):=by
 intro k l j r p S rs hS hp hk
 have hlen:=pq (f:=encS) (fun x=>by simp only[encS,List.cons_append,List.nil_append,lU,lT];omega) xs
 obtain⟨rows,hr⟩:∃rows,rows=xs.map encS:=⟨_,rfl⟩
 have hl:rows.length=xs.length:=by rw[hr,List.length_map]
 rw[←hr] at hp hk hlen ⊢
 have ht:∀x:Ab.Obj,aU (aY S (l,j) x) (l,j)=some x:=fun x=>bZ _ _ _ _ hS
 have hA:∀new,atR (dN rs r p new) r p=some new:=fun new=>qI hp
 have hU:∀a b,dN (dN rs r p a) r p b=dN rs r p b:=fun a b=>qJ hp
 refine aF (rs:=[.tmp 4]) Tryz.checked.mixed Tryz.func82 Tryz.ntmps82 rfl rfl rfl rfl rfl ?_
 simp -implicitDefEqProofs (disch:=omega) only[go_sem]
 refine aX (ι:=Nat) Tryz.checked.mixed rfl [0,1,5] (fun i=>[.c (.xp (1+l,j) r p),.c (.d (.i .i64 (k+aC (rows.take i)))),.c (.d (.i .i64 i))])
  (fun i=>[]::aY S (l,j) (.xf (dN rs r p (nH rows k i)))) (fun i=>i≤xs.length) (fun i=>xs.length-i) 0 ?_ ?_ (Nat.zero_le _) ?_
 ·have z0:k+((aC (rows.take 0):Nat):Int)=k:=by simp[aC]
  rw[z0]
  rfl
 ·rw[sO,sM hp,l7 _ _ hS]
 intro i hi
 simp -implicitDefEqProofs (disch:=omega) only[go_sem,ht,hA,jN,hl]
 with_reducible refine aA (fun hb=> ?_) (fun hb=> ?_)<;>have h:=hb<;>try simp only[wf_preprocess] at h
 ·have hi:i<xs.length:=by omega
  have hir:i<rows.length:=by omega
  obtain⟨x,hx⟩:∃x,x=xs[i]:=⟨_,rfl⟩
  have e1:rows[i]=[.s x]:=by
   simp only[hr,List.getElem_map,←hx]
   simp only[encS,List.cons_append,List.nil_append]
  have hm:=kY hir
  have hle:=nY (rows:=rows) (i:=i+1)
  rw[hm,e1] at hle
  rw[e1] at hm
  simp only[lU,lT] at hle hm
  have hK:k+((aC (rows.take (i+1)):Nat):Int)=k+((aC (rows.take i):Nat):Int)+1:=by rw[hm];omega
  have e2:=xu (k:=k) hir
  rw[e1] at e2
  have hC:∀row o,cellAt (jW rows k i row) i o=row[o]? :=fun row o=>oC hir
  have hG:∀row,(jW rows k i row).getD i []=row:=fun row=>rU hir
  simp -implicitDefEqProofs (disch:=omega) only[go_sem,hb,ht,hA,hU,e2,hC,hG,dJ,bS,hl,bK,dI]
  (repeat(with_reducible refine And.intro ?_ ?_;focus first|omega|rfl|assumption|exact⟨_,rfl,rfl⟩|(simp;omega)|(simp;done)))
  refine ay (dw (k+((aC (rows.take i):Nat):Int)) (by omega)) ?_
  simp -implicitDefEqProofs (disch:=omega) only[go_sem,hb,ht,hA,hU,e2,hC,hG,dJ,bS,hl,bK,dI]
  (repeat(with_reducible refine And.intro ?_ ?_;focus first|omega|rfl|assumption|exact⟨_,rfl,rfl⟩|(simp;omega)|(simp;done)))
  refine bI (i+1) (by omega) (by rw[hK];rfl) ?_ (by omega)
  have h3:=xw (k:=k) hir
  rw[e1] at h3
  simp only[oz,Bv] at h3
  rw[←h3]
  all_goals rfl
 ·simp -implicitDefEqProofs (disch:=omega) only[go_sem,hb]
  have hi:i=xs.length:=by omega
  rw[uP (by omega),List.take_of_length_le (by omega)]
  all_goals (first|rfl|exact⟨rfl,rfl⟩)
theorem uX(xs:List (List UInt8)):∀(k:Int) (l j r:Nat) (p:List (Nat×Nat)) (S:Store) (rs:List (List (List D))),aU S (l,j)=some (.xf rs)→atR rs r p=some (cZ (xs.map encS) k)→0≤k∧k+aC (xs.map encS)≤4611686018427387904→bD Tryz.prog 132 [.c (.xp (l,j) r p),.c (.d (.i .i64 k))] S (fun res S'=>res=.c (.d (.i .i64 (k+aC (xs.map encS))))∧S'=S):=by
 intro k l j r p S rs hS hp hk
 have hlen:=pq (f:=encS) (fun x=>by simp only[encS,List.cons_append,List.nil_append,lU,lT];omega) xs
 obtain⟨rows,hr⟩:∃rows,rows=xs.map encS:=⟨_,rfl⟩
 have hl:rows.length=xs.length:=by rw[hr,List.length_map]
 rw[←hr] at hp hk hlen ⊢
 refine aF (rs:=[.tmp 4]) Tryz.checked.mixed Tryz.func132 Tryz.ntmps132 rfl rfl rfl rfl rfl ?_
 simp -implicitDefEqProofs (disch:=omega) only[go_sem]
 refine aX (ι:=Nat) Tryz.checked.mixed rfl [0,1,5] (fun i=>[.c (.xp (1+l,j) r p),.c (.d (.i .i64 (k+aC (rows.take i)))),.c (.d (.i .i64 i))])
  (fun i=>[]::S) (fun i=>i≤xs.length) (fun i=>xs.length-i) 0 ?_ rfl (Nat.zero_le _) ?_
 ·have z0:k+((aC (rows.take 0):Nat):Int)=k:=by simp[aC]
  rw[z0]
  rfl
 intro i hi
 simp -implicitDefEqProofs (disch:=omega) only[go_sem,hS,hp,bE,hl]
 with_reducible refine aA (fun hb=> ?_) (fun hb=> ?_)<;>have h:=hb<;>try simp only[wf_preprocess] at h
 ·have hi:i<xs.length:=by omega
  have hir:i<rows.length:=by omega
  obtain⟨x,hx⟩:∃x,x=xs[i]:=⟨_,rfl⟩
  have e1:rows[i]=[.s x]:=by
   simp only[hr,List.getElem_map,←hx]
   simp only[encS,List.cons_append,List.nil_append]
  have hm:=kY hir
  have hle:=nY (rows:=rows) (i:=i+1)
  rw[hm,e1] at hle
  rw[e1] at hm
  simp only[lU,lT] at hle hm
  have hK:k+((aC (rows.take (i+1)):Nat):Int)=k+((aC (rows.take i):Nat):Int)+1:=by rw[hm];omega
  have e2:oz rows[i] (k+((aC (rows.take i):Nat):Int))=[.s (gN (k+((aC (rows.take i):Nat):Int)))]:=by
   rw[e1]
   simp only[oz,Bv]
   all_goals rfl
  have hC:∀o,cellAt (cZ rows k) i o=([.s (gN (k+((aC (rows.take i):Nat):Int)))]:List D)[o]? :=fun o=>by
   have h1:(cZ rows k)[i]? =some (oz rows[i] (k+((aC (rows.take i):Nat):Int))):=by
    have h2:=mH (k:=k) hir
    have h3:i<(cZ rows k).length:=by rw[bE];exact hir
    rw[List.getD_eq_getElem?_getD,List.getElem?_eq_getElem h3,Option.getD_some] at h2
    rw[List.getElem?_eq_getElem h3,h2]
   unfold cellAt
   rw[h1,Option.bind_some,e2]
  have hG:=mH (k:=k) hir
  rw[e2] at hG
  simp -implicitDefEqProofs (disch:=omega) only[go_sem,hb,hS,hp,hC,hG,bE,hl,dI]
  (repeat(with_reducible refine And.intro ?_ ?_;focus first|omega|rfl|assumption|exact⟨_,rfl,rfl⟩|(simp;omega)|(simp;done)))
  refine ay (dw (k+((aC (rows.take i):Nat):Int)) (by omega)) ?_
  simp -implicitDefEqProofs (disch:=omega) only[go_sem,hb,hS,hp,hC,hG,bE,hl,dI]
  (repeat(with_reducible refine And.intro ?_ ?_;focus first|omega|rfl|assumption|exact⟨_,rfl,rfl⟩|(simp;omega)|(simp;done)))
  refine bI (i+1) (by omega) (by rw[hK];rfl) rfl (by omega)
 ·simp -implicitDefEqProofs (disch:=omega) only[go_sem,hb]
  have hi:i=xs.length:=by omega
  rw[List.take_of_length_le (by omega)]
  all_goals (first|rfl|exact⟨rfl,rfl⟩)
end Go.Proofs.YtlmhknhlmicmeaaGreatDoor
namespace Go.Proofs.YtlmhknhlmicmeaaGreatDoor
open Go Go.Ab
end Go.Proofs.YtlmhknhlmicmeaaGreatDoor
namespace Go.Proofs.YtlmhknhlmicmeaaGreatDoor
open Go Go.Ab
theorem Dj:∀n:Nat,(∀xs:List aj,SizeOf.sizeOf xs<n→∀(k:Int) (l j r:Nat) (p:List (Nat×Nat)) (S:Store) (rs:List (List (List D))),aU S (l,j)=some (.xf rs)→atR rs r p=some (xs.map aj.enc)→0≤k∧k+aC (xs.map aj.enc)≤4611686018427387904→bD Tryz.prog 183 [.c (.xp (l,j) r p),.c (.d (.i .i64 k))] S (fun res S'=>res=.c (.d (.i .i64 (k+aC (xs.map aj.enc))))∧S'=aY S (l,j) (.xf (dN rs r p (cZ (xs.map aj.enc) k)))))
 |0=>fun xs h=>by omega
 |n+1=>by
  have Co:=Dj n
  refine fun xs hn k l j r p S rs hS hp hk=> ?_
  ·have hlen:=pq (f:=aj.enc) (fun x=>by simp only[aj.aH,encS,encI,List.cons_append,List.nil_append,lU,lT];omega) xs
   obtain⟨rows,hr⟩:∃rows,rows=xs.map aj.enc:=⟨_,rfl⟩
   have hl:rows.length=xs.length:=by rw[hr,List.length_map]
   rw[←hr] at hp hk hlen ⊢
   have ht:∀x:Ab.Obj,aU (aY S (l,j) x) (l,j)=some x:=fun x=>bZ _ _ _ _ hS
   have hA:∀new,atR (dN rs r p new) r p=some new:=fun new=>qI hp
   have hU:∀a b,dN (dN rs r p a) r p b=dN rs r p b:=fun a b=>qJ hp
   refine aF (rs:=[.tmp 4]) Tryz.checked.mixed Tryz.func183 Tryz.ntmps183 rfl rfl rfl rfl rfl ?_
   simp -implicitDefEqProofs (disch:=omega) only[go_sem]
   refine aX (ι:=Nat) Tryz.checked.mixed rfl [0,1,5] (fun i=>[.c (.xp (1+l,j) r p),.c (.d (.i .i64 (k+aC (rows.take i)))),.c (.d (.i .i64 i))])
    (fun i=>[]::aY S (l,j) (.xf (dN rs r p (nH rows k i)))) (fun i=>i≤xs.length) (fun i=>xs.length-i) 0 ?_ ?_ (Nat.zero_le _) ?_
   ·have z0:k+((aC (rows.take 0):Nat):Int)=k:=by simp[aC]
    rw[z0]
    rfl
   ·rw[sO,sM hp,l7 _ _ hS]
   intro i hi
   simp -implicitDefEqProofs (disch:=omega) only[go_sem,ht,hA,jN,hl]
   with_reducible refine aA (fun hb=> ?_) (fun hb=> ?_)<;>have h:=hb<;>try simp only[wf_preprocess] at h
   ·have hi:i<xs.length:=by omega
    have hir:i<rows.length:=by omega
    obtain⟨x,hx⟩:∃x,x=xs[i]:=⟨_,rfl⟩
    have e1:rows[i]=[.i .i64 x.aM,.s x.fName,.sl (x.fArgs.map aj.enc)]:=by
     simp only[hr,List.getElem_map,←hx]
     simp only[aj.aH,encS,encI,List.cons_append,List.nil_append]
    have hm:=kY hir
    have hle:=nY (rows:=rows) (i:=i+1)
    rw[hm,e1] at hle
    rw[e1] at hm
    simp only[lU,lT] at hle hm
    have hK:k+((aC (rows.take (i+1)):Nat):Int)=k+((aC (rows.take i):Nat):Int)+1+1+((aC (x.fArgs.map aj.enc):Nat):Int):=by rw[hm];omega
    have e2:=xu (k:=k) hir
    rw[e1] at e2
    have hC:∀row o,cellAt (jW rows k i row) i o=row[o]? :=fun row o=>oC hir
    have hG:∀row,(jW rows k i row).getD i []=row:=fun row=>rU hir
    simp -implicitDefEqProofs (disch:=omega) only[go_sem,hb,ht,hA,hU,e2,hC,hG,dJ,bS,hl,bK,dI]
    (repeat(with_reducible refine And.intro ?_ ?_;focus first|omega|rfl|assumption|exact⟨_,rfl,rfl⟩|(simp;omega)|(simp;done)))
    refine ay (dw (k+((aC (rows.take i):Nat):Int)+1) (by omega)) ?_
    simp -implicitDefEqProofs (disch:=omega) only[go_sem,hb,ht,hA,hU,e2,hC,hG,dJ,bS,hl,bK,dI]
    (repeat(with_reducible refine And.intro ?_ ?_;focus first|omega|rfl|assumption|exact⟨_,rfl,rfl⟩|(simp;omega)|(simp;done)))
    refine bq rfl (mI hS hp hir (by rfl) (fun S' rs' g1 g2=>Co x.fArgs (by have:=List.sizeOf_lt_of_mem (List.getElem_mem hi);rw[←hx] at this;have:=aj.fq x;omega) (k+((aC (rows.take i):Nat):Int)+1+1) (1+l) j r _ S' rs' g1 g2 (by omega))) ?_
    simp -implicitDefEqProofs (disch:=omega) only[go_sem,hb,ht,hA,hU,e2,hC,hG,dJ,bS,hl,bK,dI]
    (repeat(with_reducible refine And.intro ?_ ?_;focus first|omega|rfl|assumption|exact⟨_,rfl,rfl⟩|(simp;omega)|(simp;done)))
    refine bI (i+1) (by omega) (by rw[hK];rfl) ?_ (by omega)
    have h3:=xw (k:=k) hir
    rw[e1] at h3
    simp only[oz,Bv] at h3
    rw[←h3]
    all_goals rfl
   ·simp -implicitDefEqProofs (disch:=omega) only[go_sem,hb]
    have hi:i=xs.length:=by omega
    rw[uP (by omega),List.take_of_length_le (by omega)]
    all_goals (first|rfl|exact⟨rfl,rfl⟩)
theorem qO(xs:List aj):∀(k:Int) (l j r:Nat) (p:List (Nat×Nat)) (S:Store) (rs:List (List (List D))),aU S (l,j)=some (.xf rs)→atR rs r p=some (xs.map aj.enc)→0≤k∧k+aC (xs.map aj.enc)≤4611686018427387904→bD Tryz.prog 183 [.c (.xp (l,j) r p),.c (.d (.i .i64 k))] S (fun res S'=>res=.c (.d (.i .i64 (k+aC (xs.map aj.enc))))∧S'=aY S (l,j) (.xf (dN rs r p (cZ (xs.map aj.enc) k)))):=(Dj _) xs (Nat.lt_succ_self _)
theorem Dk:∀n:Nat,(∀xs:List aj,SizeOf.sizeOf xs<n→∀(k:Int) (l j r:Nat) (p:List (Nat×Nat)) (S:Store) (rs:List (List (List D))),aU S (l,j)=some (.xf rs)→atR rs r p=some (cZ (xs.map aj.enc) k)→0≤k∧k+aC (xs.map aj.enc)≤4611686018427387904→bD Tryz.prog 214 [.c (.xp (l,j) r p),.c (.d (.i .i64 k))] S (fun res S'=>res=.c (.d (.i .i64 (k+aC (xs.map aj.enc))))∧S'=S))
 |0=>fun xs h=>by omega
 |n+1=>by
  have Co:=Dk n
  refine fun xs hn k l j r p S rs hS hp hk=> ?_
  ·have hlen:=pq (f:=aj.enc) (fun x=>by simp only[aj.aH,encS,encI,List.cons_append,List.nil_append,lU,lT];omega) xs
   obtain⟨rows,hr⟩:∃rows,rows=xs.map aj.enc:=⟨_,rfl⟩
   have hl:rows.length=xs.length:=by rw[hr,List.length_map]
   rw[←hr] at hp hk hlen ⊢
   refine aF (rs:=[.tmp 4]) Tryz.checked.mixed Tryz.func214 Tryz.ntmps214 rfl rfl rfl rfl rfl ?_
   simp -implicitDefEqProofs (disch:=omega) only[go_sem]
   refine aX (ι:=Nat) Tryz.checked.mixed rfl [0,1,5] (fun i=>[.c (.xp (1+l,j) r p),.c (.d (.i .i64 (k+aC (rows.take i)))),.c (.d (.i .i64 i))])
    (fun i=>[]::S) (fun i=>i≤xs.length) (fun i=>xs.length-i) 0 ?_ rfl (Nat.zero_le _) ?_
   ·have z0:k+((aC (rows.take 0):Nat):Int)=k:=by simp[aC]
    rw[z0]
    rfl
   intro i hi
   simp -implicitDefEqProofs (disch:=omega) only[go_sem,hS,hp,bE,hl]
   with_reducible refine aA (fun hb=> ?_) (fun hb=> ?_)<;>have h:=hb<;>try simp only[wf_preprocess] at h
   ·have hi:i<xs.length:=by omega
    have hir:i<rows.length:=by omega
    obtain⟨x,hx⟩:∃x,x=xs[i]:=⟨_,rfl⟩
    have e1:rows[i]=[.i .i64 x.aM,.s x.fName,.sl (x.fArgs.map aj.enc)]:=by
     simp only[hr,List.getElem_map,←hx]
     simp only[aj.aH,encS,encI,List.cons_append,List.nil_append]
    have hm:=kY hir
    have hle:=nY (rows:=rows) (i:=i+1)
    rw[hm,e1] at hle
    rw[e1] at hm
    simp only[lU,lT] at hle hm
    have hK:k+((aC (rows.take (i+1)):Nat):Int)=k+((aC (rows.take i):Nat):Int)+1+1+((aC (x.fArgs.map aj.enc):Nat):Int):=by rw[hm];omega
    have e2:oz rows[i] (k+((aC (rows.take i):Nat):Int))=[.i .i64 (k+((aC (rows.take i):Nat):Int)),.s (gN (k+((aC (rows.take i):Nat):Int)+1)),.sl (cZ (x.fArgs.map aj.enc) (k+((aC (rows.take i):Nat):Int)+1+1))]:=by
     rw[e1]
     simp only[oz,Bv]
     all_goals rfl
    have hC:∀o,cellAt (cZ rows k) i o=([.i .i64 (k+((aC (rows.take i):Nat):Int)),.s (gN (k+((aC (rows.take i):Nat):Int)+1)),.sl (cZ (x.fArgs.map aj.enc) (k+((aC (rows.take i):Nat):Int)+1+1))]:List D)[o]? :=fun o=>by
     have h1:(cZ rows k)[i]? =some (oz rows[i] (k+((aC (rows.take i):Nat):Int))):=by
      have h2:=mH (k:=k) hir
      have h3:i<(cZ rows k).length:=by rw[bE];exact hir
      rw[List.getD_eq_getElem?_getD,List.getElem?_eq_getElem h3,Option.getD_some] at h2
      rw[List.getElem?_eq_getElem h3,h2]
     unfold cellAt
     rw[h1,Option.bind_some,e2]
    have hG:=mH (k:=k) hir
    rw[e2] at hG
    simp -implicitDefEqProofs (disch:=omega) only[go_sem,hb,hS,hp,hC,hG,bE,hl,dI]
    (repeat(with_reducible refine And.intro ?_ ?_;focus first|omega|rfl|assumption|exact⟨_,rfl,rfl⟩|(simp;omega)|(simp;done)))
    refine ay (dw (k+((aC (rows.take i):Nat):Int)+1) (by omega)) ?_
    simp -implicitDefEqProofs (disch:=omega) only[go_sem,hb,hS,hp,hC,hG,bE,hl,dI]
    (repeat(with_reducible refine And.intro ?_ ?_;focus first|omega|rfl|assumption|exact⟨_,rfl,rfl⟩|(simp;omega)|(simp;done)))
    refine bq rfl (Co x.fArgs (by have:=List.sizeOf_lt_of_mem (List.getElem_mem hi);rw[←hx] at this;have:=aj.fq x;omega) (k+((aC (rows.take i):Nat):Int)+1+1) (1+l) j r _ _ _ (by rw[fV];exact hS) (jv hp (by rw[hC];rfl)) (by omega)) ?_
    simp -implicitDefEqProofs (disch:=omega) only[go_sem,hb,hS,hp,hC,hG,bE,hl,dI,iQ]
    (repeat(with_reducible refine And.intro ?_ ?_;focus first|omega|rfl|assumption|exact⟨_,rfl,rfl⟩|(simp;omega)|(simp;done)))
    refine bI (i+1) (by omega) (by rw[hK];rfl) rfl (by omega)
   ·simp -implicitDefEqProofs (disch:=omega) only[go_sem,hb]
    have hi:i=xs.length:=by omega
    rw[List.take_of_length_le (by omega)]
    all_goals (first|rfl|exact⟨rfl,rfl⟩)
theorem qP(xs:List aj):∀(k:Int) (l j r:Nat) (p:List (Nat×Nat)) (S:Store) (rs:List (List (List D))),aU S (l,j)=some (.xf rs)→atR rs r p=some (cZ (xs.map aj.enc) k)→0≤k∧k+aC (xs.map aj.enc)≤4611686018427387904→bD Tryz.prog 214 [.c (.xp (l,j) r p),.c (.d (.i .i64 k))] S (fun res S'=>res=.c (.d (.i .i64 (k+aC (xs.map aj.enc))))∧S'=S):=(Dk _) xs (Nat.lt_succ_self _)
end Go.Proofs.YtlmhknhlmicmeaaGreatDoor
namespace Go.Proofs.YtlmhknhlmicmeaaGreatDoor
open Go Go.Ab
end Go.Proofs.YtlmhknhlmicmeaaGreatDoor
namespace Go.Proofs.YtlmhknhlmicmeaaGreatDoor
open Go Go.Ab
end Go.Proofs.YtlmhknhlmicmeaaGreatDoor
