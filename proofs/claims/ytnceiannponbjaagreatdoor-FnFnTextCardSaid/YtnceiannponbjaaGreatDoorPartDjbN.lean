/-
  SEVERAL TEXTS IN ONE (merged by program): contracts and models, each with its own heading.
-/
import Derived.Test.YtnceiannponbjaaGreatDoorPartDjbM
set_option maxHeartbeats 8000000
open Go.Proofs Go.Proofs.Tryz
set_option linter.unusedSimpArgs false
set_option linter.unusedVariables false
set_option maxRecDepth 4000
namespace Go.Ab
theorem au.aeA{x:au}{y:au}(h:y∈x.fArgs):y.cnt+1<=x.cnt:=by
 rw[au.lY x]
 have:∀xs:List au,y∈xs->y.cnt<=au.dn xs:=by
  intro xs
  induction xs with
  |nil=>intro h;cases h
  |cons z zs ih=>
   intro h;rw[au.dn];rcases List.mem_cons.1 h with e|e
   ·subst e;omega
   ·have:=ih e;omega
 have:=this _ h;omega
theorem au.aeB{x:au}{y:aJ}(h:y∈x.aI):y.fBody.cnt+1<=x.cnt:=by
 rw[au.lY x]
 have:∀xs:List aJ,y∈xs->y.fBody.cnt<=aJ.dn xs:=by
  intro xs
  induction xs with
  |nil=>intro h;cases h
  |cons z zs ih=>
   intro h;rw[aJ.dn];rcases List.mem_cons.1 h with e|e
   ·subst e;rw[aJ.lY];omega
   ·have:=ih e;omega
 have:=this _ h;omega
theorem au.aeC(x:au):x.fArgs.length+1<=x.cnt:=by
 rw[au.lY x]
 have:∀xs:List au,xs.length<=au.dn xs:=by
  intro xs
  induction xs with
  |nil=>simp
  |cons z zs ih=>rw[au.dn,List.length_cons];have:=au.lY z;omega
 have:=this x.fArgs;omega
def Wi(k:Int):Bool:=if k=5\/k=11 then true else false
def Wj(k:Int):Bool:=if k=3\/k=4\/k=6\/k=5\/k=8\/k=10 then true else false
def Wl(k:Int):Bool:=if k=1\/k=2 then true else false
def Wm(k:Int):Bool:=if k=1\/k=2\/k=3\/k=4\/k=6\/k=5\/k=7\/k=8\/k=10\/k=9\/k=11 then false else true
def Wn(k:Int):Int:=if k=1\/k=2\/k=3 then 0 else if k=4\/k=6\/k=5 then -1 else if k=8\/k=10 then 2 else if k=9 then 3 else 1
def Wo(k:Int):Bool:=if k=7 then true else false
theorem JU:∀n:Nat,∀x:au,SizeOf.sizeOf x<n->x.sz<=4194304->x.cnt<=300->aG prog 176 [x.v] (.c (.d (.b (gI x))))
 |0=>fun x h=>by omega
 |n+1=>by
  have ih:=JU n;intro x hn hsz hc S;have hb0:=au.bounds hsz;have jl:=au.iy x;have Co:=au.tC x;have hl:=au.aeC x
  have h1:∀y∈x.fArgs,aG prog 204 [y.v] (.c (.d (.b (!gI y)))):=fun y hy S=>by
   have hys:=List.sizeOf_lt_of_mem hy;have hyc:=au.aeA hy
   have hyz:y.sz<=4194304:=by obtain⟨i,hi,e⟩:=List.getElem_of_mem hy;rw[<-e];exact au.arg_b hi hsz
   refine zcx [.tmp 2] func204 ntmps204 ?_;simp -implicitDefEqProofs (disch:=omega) only[go_sem];refine ay (ih y (by omega) hyz (by omega)) ?_;simp -implicitDefEqProofs (disch:=omega) only[go_sem]<;>(repeat(with_reducible refine And.intro ?_ ?_;focus first|omega|rfl|assumption|exact⟨_,rfl,rfl⟩|(simp;omega)|(simp;done)))
  have h2:∀y∈x.aI,aG prog 206 [y.v] (.c (.d (.b (!rH y)))):=fun y hy S=>by
   have hys:=List.sizeOf_lt_of_mem hy;have hyb:=aJ.rC y;have hyc:=au.aeB hy
   have hyz:y.sz<=4194304:=by obtain⟨i,hi,e⟩:=List.getElem_of_mem hy;rw[<-e];exact au.NI hi hsz
   have hyy:=aJ.bounds hyz;refine zcx [.tmp 2] func206 ntmps206 ?_;simp -implicitDefEqProofs (disch:=omega) only[go_sem];refine ay (jJ y.bO (by omega)) ?_;simp -implicitDefEqProofs (disch:=omega) only[go_sem]<;>(repeat(with_reducible refine And.intro ?_ ?_;focus first|omega|rfl|assumption|exact⟨_,rfl,rfl⟩|(simp;omega)|(simp;done)))
   with_reducible refine aA (fun hb=> ?_) (fun hb=> ?_)<;>have h:=hb<;>(try simp only[wf_preprocess] at h)<;>simp -implicitDefEqProofs (disch:=omega) only[go_sem,hb]<;>(repeat(with_reducible refine And.intro ?_ ?_;focus first|omega|rfl|assumption|exact⟨_,rfl,rfl⟩|(simp;omega)|(simp;done)))
   ·exact aQ (by rw[nT,h];rfl)
   have k1:=h;refine ay (AL y.aW (by omega) hyy.2.2.1) ?_;simp -implicitDefEqProofs (disch:=omega) only[go_sem]<;>(repeat(with_reducible refine And.intro ?_ ?_;focus first|omega|rfl|assumption|exact⟨_,rfl,rfl⟩|(simp;omega)|(simp;done)))
   with_reducible refine aA (fun hb=> ?_) (fun hb=> ?_)<;>have h:=hb<;>(try simp only[wf_preprocess] at h)<;>simp -implicitDefEqProofs (disch:=omega) only[go_sem,hb]<;>(repeat(with_reducible refine And.intro ?_ ?_;focus first|omega|rfl|assumption|exact⟨_,rfl,rfl⟩|(simp;omega)|(simp;done)))
   ·exact aQ (by rw[nT,h];simp)
   have k2:=h;refine ay (ih y.fBody (by omega) hyy.2.2.2 (by omega)) ?_;simp -implicitDefEqProofs (disch:=omega) only[go_sem]<;>(repeat(with_reducible refine And.intro ?_ ?_;focus first|omega|rfl|assumption|exact⟨_,rfl,rfl⟩|(simp;omega)|(simp;done)));exact aQ (by rw[nT,k1,k2];simp)
  refine zcx [.tmp 2] func176 ntmps176 ?_;simp -implicitDefEqProofs (disch:=omega) only[go_sem];refine ay (Qc x hsz (by omega)) ?_;simp -implicitDefEqProofs (disch:=omega) only[go_sem]<;>(repeat(with_reducible refine And.intro ?_ ?_;focus first|omega|rfl|assumption|exact⟨_,rfl,rfl⟩|(simp;omega)|(simp;done)))
  with_reducible refine aA (fun hb=> ?_) (fun hb=> ?_)<;>have h:=hb<;>(try simp only[wf_preprocess] at h)<;>simp -implicitDefEqProofs (disch:=omega) only[go_sem,hb]<;>(repeat(with_reducible refine And.intro ?_ ?_;focus first|omega|rfl|assumption|exact⟨_,rfl,rfl⟩|(simp;omega)|(simp;done)))
  ·exact aQ (by rw[tV,bJ h];rfl)
  have k1:=h
  (repeat(with_reducible refine And.intro ?_ ?_;focus first|omega|rfl|assumption|exact⟨_,rfl,rfl⟩|(simp;omega)|(simp;done)))
  refine aX rfl (Dt 204 [] _ x.fArgs (fun y=> !gI y) (by omega) fun y hy=>kW.KN (h1 y hy)) ?_;simp -implicitDefEqProofs (disch:=omega) only[go_sem];rw[Gd]
  with_reducible refine aA (fun hb=> ?_) (fun hb=> ?_)<;>have h:=hb<;>(try simp only[wf_preprocess] at h)<;>simp -implicitDefEqProofs (disch:=omega) only[go_sem,hb]<;>(repeat(with_reducible refine And.intro ?_ ?_;focus first|omega|rfl|assumption|exact⟨_,rfl,rfl⟩|(simp;omega)|(simp;done)))
  ·exact aQ (by rw[tV,h];simp)
  have k2:=h
  (repeat(with_reducible refine And.intro ?_ ?_;focus first|omega|rfl|assumption|exact⟨_,rfl,rfl⟩|(simp;omega)|(simp;done)))
  refine aX rfl (Ed 206 [] _ x.aI (fun y=> !rH y) (by omega) fun y hy=>kW.KN (h2 y hy)) ?_;simp -implicitDefEqProofs (disch:=omega) only[go_sem];rw[Jy];exact aQ (by rw[tV,dx k1,k2];simp)
theorem Hr(x:au)(hsz:x.sz<=4194304):aG prog 116 [x.v] (.c (.d (.b (nK x)))):=fun S=>by
 refine zcx [.tmp 2] func116 ntmps116 ?_;simp -implicitDefEqProofs (disch:=omega) only[go_sem];refine ay (I4 x hsz) ?_;simp -implicitDefEqProofs (disch:=omega) only[go_sem]<;>(repeat(with_reducible refine And.intro ?_ ?_;focus first|omega|rfl|assumption|exact⟨_,rfl,rfl⟩|(simp;omega)|(simp;done)))
 with_reducible refine aA (fun hb=> ?_) (fun hb=> ?_)<;>have h:=hb<;>(try simp only[wf_preprocess] at h)<;>simp -implicitDefEqProofs (disch:=omega) only[go_sem,hb]<;>(repeat(with_reducible refine And.intro ?_ ?_;focus first|omega|rfl|assumption|exact⟨_,rfl,rfl⟩|(simp;omega)|(simp;done)))
 ·refine ay (JU _ x (Nat.lt_succ_self _) hsz (by omega)) ?_;simp -implicitDefEqProofs (disch:=omega) only[go_sem]<;>(repeat(with_reducible refine And.intro ?_ ?_;focus first|omega|rfl|assumption|exact⟨_,rfl,rfl⟩|(simp;omega)|(simp;done)));exact aQ (by unfold nK;rw[dx (by omega)];rfl)
 ·exact aQ (by unfold nK;rw[bJ (by omega)];rfl)
theorem Mj(k:Int):aG prog 210 [.c (.d (.i .i64 k))] (.d9 [(false,[.d (.b (Wi k))]),(false,[.d (.b (Wj k))]),(false,[.d (.b (Wl k))]),(false,[.d (.b (Wm k))]),(false,[.d (.i .i64 (Wn k))]),(false,[.d (.b (Wo k))])]):=fun S=>by
 refine zcx [.tmp 2,.tmp 3,.tmp 4,.tmp 5,.tmp 6,.tmp 7] func210 ntmps210 ?_;simp -implicitDefEqProofs (disch:=omega) only[go_sem]
 repeat' (first
  |with_reducible refine aA (fun hb=> ?_) (fun hb=> ?_)<;>have h:=hb<;>(try simp only[wf_preprocess] at h)<;>simp -implicitDefEqProofs (disch:=omega) only[go_sem,hb]<;>(repeat(with_reducible refine And.intro ?_ ?_;focus first|omega|rfl|assumption|exact⟨_,rfl,rfl⟩|(simp;omega)|(simp;done)))
  |(unfold Wi Wj Wl Wm Wn Wo;grind))
theorem Wp(t:ak):aG prog 87 [t.v] (.c (.d (.b (dec (Ag t))))):=fun S=>by
 refine zcx [.tmp 2] func87 ntmps87 ?_;simp -implicitDefEqProofs (disch:=omega) only[go_sem]
 repeat' (first
  |with_reducible refine aA (fun hb=> ?_) (fun hb=> ?_)<;>have h:=hb<;>(try simp only[wf_preprocess] at h)<;>simp -implicitDefEqProofs (disch:=omega) only[go_sem,hb]<;>(repeat(with_reducible refine And.intro ?_ ?_;focus first|omega|rfl|assumption|exact⟨_,rfl,rfl⟩|(simp;omega)|(simp;done)))
  |(refine aQ ?_;unfold Ag;grind [dx,bJ,iR,mV]))
theorem Wq(s:List UInt8):aG prog 211 [.c (.d (.s s))] (.c (.d (.b (dec (s∈ops))))):=fun S=>by
 refine zcx [.tmp 2] func211 ntmps211 ?_;simp -implicitDefEqProofs (disch:=omega) only[go_sem]
 (repeat(with_reducible refine And.intro ?_ ?_;focus first|omega|rfl|assumption|exact⟨_,rfl,rfl⟩|(simp;omega)|(simp;done)))
 refine ay (qM ops s (by decide)) ?_;simp -implicitDefEqProofs (disch:=omega) only[go_sem]<;>(repeat(with_reducible refine And.intro ?_ ?_;focus first|omega|rfl|assumption|exact⟨_,rfl,rfl⟩|(simp;omega)|(simp;done)))
theorem Gm:∀n:Nat,∀x:au,SizeOf.sizeOf x<n->x.sz<=4194304->∀l:Int,0<=l->l<=1048576->aG prog 183 [x.v,.c (.d (.i .i64 l))] (.c (.d (.i .i64 (lH l x.cnt))))
 |0=>fun x h=>by omega
 |n+1=>by
  have ih:=Gm n;intro x hn hsz l hl hl2 S;have hb0:=au.bounds hsz;have jl:=au.iy x;have Co:=au.tC x;have he:=au.lY x;refine zcx [.tmp 4] func183 ntmps183 ?_;simp -implicitDefEqProofs (disch:=omega) only[go_sem]
  refine bC (ι:=Nat×Int) zmx rfl [1,2,5] (fun y=>[.c (.d (.i .i64 y.2)),.c (.ptr (0,0) 0),.c (.d (.i .i64 y.1))]) (fun y=>[.box (x.enc.map .d)]::S)
   (fun y=>y.1<=x.fArgs.length/\(-1<=y.2/\y.2<=1048576)/\lH y.2 (au.dn (x.fArgs.drop y.1))=lH (l-1) (au.dn x.fArgs)) (fun y=>x.fArgs.length-y.1) (0,l-1) rfl ?_ ⟨Nat.zero_le _,by simp only;omega,rfl⟩ ?_
  ·simp -implicitDefEqProofs (disch:=omega) only[go_sem]
  rintro⟨i,c⟩ ⟨p1,p2,p3⟩;simp only at p1 p2 p3
  have out:(i=x.fArgs.length\/c<0)->c=lH (l-1) (au.dn x.fArgs):=fun h=>by
   rcases h with h|h
   ·rw[h,List.drop_length,au.dn,Ef p2.1] at p3;exact p3
   ·rw[<-p3,GY h];omega
  have second:(i=x.fArgs.length\/c<0)->lH c (aJ.dn x.aI)=lH l x.cnt:=fun h=>by
   rw[out h,Cz,he];unfold lH;split<;>split<;>(try split)<;>omega
  simp -implicitDefEqProofs (disch:=omega) only[go_sem]
  with_reducible refine aA (fun hb=> ?_) (fun hb=> ?_)<;>have h:=hb<;>(try simp only[wf_preprocess] at h)<;>simp -implicitDefEqProofs (disch:=omega) only[go_sem,hb]<;>(repeat(with_reducible refine And.intro ?_ ?_;focus first|omega|rfl|assumption|exact⟨_,rfl,rfl⟩|(simp;omega)|(simp;done)))
  ·have hi:i<x.fArgs.length:=by omega
   with_reducible refine aA (fun hb=> ?_) (fun hb=> ?_)<;>have h:=hb<;>(try simp only[wf_preprocess] at h)<;>simp -implicitDefEqProofs (disch:=omega) only[go_sem,hb]<;>(repeat(with_reducible refine And.intro ?_ ?_;focus first|omega|rfl|assumption|exact⟨_,rfl,rfl⟩|(simp;omega)|(simp;done)))
   ·have hs:=List.sizeOf_lt_of_mem (List.getElem_mem hi);have hr:=KZ (l:=c) (c:=x.fArgs[i].cnt) (by omega);rw[au.jR hi,<-Cz] at p3
    (repeat(with_reducible refine And.intro ?_ ?_;focus first|omega|rfl|assumption|exact⟨_,rfl,rfl⟩|(simp;omega)|(simp;done)))
    refine ay (ih x.fArgs[i] (by omega) (au.arg_b hi hsz) c (by omega) (by omega)) ?_;simp -implicitDefEqProofs (disch:=omega) only[go_sem]<;>(repeat(with_reducible refine And.intro ?_ ?_;focus first|omega|rfl|assumption|exact⟨_,rfl,rfl⟩|(simp;omega)|(simp;done)));exact cO (i+1,lH c x.fArgs[i].cnt) (by simp only;omega) rfl rfl ⟨by simp only;omega,by simp only;omega,p3⟩
   ·have p4:=second (.inr (by omega));clear second out p3
    refine bC (ι:=Nat×Int) zmx rfl [1,2,6] (fun y=>[.c (.d (.i .i64 y.2)),.c (.ptr (0,0) 0),.c (.d (.i .i64 y.1))]) (fun y=>[.box (x.enc.map .d)]::S)
     (fun y=>y.1<=x.aI.length/\(-1<=y.2/\y.2<=1048576)/\lH y.2 (aJ.dn (x.aI.drop y.1))=lH l x.cnt) (fun y=>x.aI.length-y.1) (0,c) rfl ?_ ⟨Nat.zero_le _,by simp only;omega,p4⟩ ?_
    ·simp -implicitDefEqProofs (disch:=omega) only[go_sem]
    clear p1 p2 p4;rintro⟨i,d⟩ ⟨p1,p2,p3⟩;simp only at p1 p2 p3;simp -implicitDefEqProofs (disch:=omega) only[go_sem]
    with_reducible refine aA (fun hb=> ?_) (fun hb=> ?_)<;>have h:=hb<;>(try simp only[wf_preprocess] at h)<;>simp -implicitDefEqProofs (disch:=omega) only[go_sem,hb]<;>(repeat(with_reducible refine And.intro ?_ ?_;focus first|omega|rfl|assumption|exact⟨_,rfl,rfl⟩|(simp;omega)|(simp;done)))
    ·have hi:i<x.aI.length:=by omega
     with_reducible refine aA (fun hb=> ?_) (fun hb=> ?_)<;>have h:=hb<;>(try simp only[wf_preprocess] at h)<;>simp -implicitDefEqProofs (disch:=omega) only[go_sem,hb]<;>(repeat(with_reducible refine And.intro ?_ ?_;focus first|omega|rfl|assumption|exact⟨_,rfl,rfl⟩|(simp;omega)|(simp;done)))
     ·have hs:=List.sizeOf_lt_of_mem (List.getElem_mem hi);have hs':=aJ.rC x.aI[i];have hr:=KZ (l:=d) (c:=x.aI[i].fBody.cnt) (by omega);rw[aJ.jR hi,<-Cz] at p3
      (repeat(with_reducible refine And.intro ?_ ?_;focus first|omega|rfl|assumption|exact⟨_,rfl,rfl⟩|(simp;omega)|(simp;done)))
      refine ay (ih x.aI[i].fBody (by omega) (aJ.bounds (au.NI hi hsz)).2.2.2 d (by omega) (by omega)) ?_;simp -implicitDefEqProofs (disch:=omega) only[go_sem]<;>(repeat(with_reducible refine And.intro ?_ ?_;focus first|omega|rfl|assumption|exact⟨_,rfl,rfl⟩|(simp;omega)|(simp;done)));exact cO (i+1,lH d x.aI[i].fBody.cnt) (by simp only;omega) rfl rfl ⟨by simp only;omega,by simp only;omega,p3⟩
     ·rw[GY (by omega)] at p3;exact int_eq (by omega)
    ·have hi:i=x.aI.length:=by omega
     rw[hi,List.drop_length,aJ.dn,Ef p2.1] at p3;exact int_eq (by omega)
  ·have p4:=second (.inl (by omega));clear second out p3
   refine bC (ι:=Nat×Int) zmx rfl [1,2,6] (fun y=>[.c (.d (.i .i64 y.2)),.c (.ptr (0,0) 0),.c (.d (.i .i64 y.1))]) (fun y=>[.box (x.enc.map .d)]::S)
    (fun y=>y.1<=x.aI.length/\(-1<=y.2/\y.2<=1048576)/\lH y.2 (aJ.dn (x.aI.drop y.1))=lH l x.cnt) (fun y=>x.aI.length-y.1) (0,c) rfl ?_ ⟨Nat.zero_le _,by simp only;omega,p4⟩ ?_
   ·simp -implicitDefEqProofs (disch:=omega) only[go_sem]
   clear p1 p2 p4;rintro⟨i,d⟩ ⟨p1,p2,p3⟩;simp only at p1 p2 p3;simp -implicitDefEqProofs (disch:=omega) only[go_sem]
   with_reducible refine aA (fun hb=> ?_) (fun hb=> ?_)<;>have h:=hb<;>(try simp only[wf_preprocess] at h)<;>simp -implicitDefEqProofs (disch:=omega) only[go_sem,hb]<;>(repeat(with_reducible refine And.intro ?_ ?_;focus first|omega|rfl|assumption|exact⟨_,rfl,rfl⟩|(simp;omega)|(simp;done)))
   ·have hi:i<x.aI.length:=by omega
    with_reducible refine aA (fun hb=> ?_) (fun hb=> ?_)<;>have h:=hb<;>(try simp only[wf_preprocess] at h)<;>simp -implicitDefEqProofs (disch:=omega) only[go_sem,hb]<;>(repeat(with_reducible refine And.intro ?_ ?_;focus first|omega|rfl|assumption|exact⟨_,rfl,rfl⟩|(simp;omega)|(simp;done)))
    ·have hs:=List.sizeOf_lt_of_mem (List.getElem_mem hi);have hs':=aJ.rC x.aI[i];have hr:=KZ (l:=d) (c:=x.aI[i].fBody.cnt) (by omega);rw[aJ.jR hi,<-Cz] at p3
     (repeat(with_reducible refine And.intro ?_ ?_;focus first|omega|rfl|assumption|exact⟨_,rfl,rfl⟩|(simp;omega)|(simp;done)))
     refine ay (ih x.aI[i].fBody (by omega) (aJ.bounds (au.NI hi hsz)).2.2.2 d (by omega) (by omega)) ?_;simp -implicitDefEqProofs (disch:=omega) only[go_sem]<;>(repeat(with_reducible refine And.intro ?_ ?_;focus first|omega|rfl|assumption|exact⟨_,rfl,rfl⟩|(simp;omega)|(simp;done)));exact cO (i+1,lH d x.aI[i].fBody.cnt) (by simp only;omega) rfl rfl ⟨by simp only;omega,by simp only;omega,p3⟩
    ·rw[GY (by omega)] at p3;exact int_eq (by omega)
   ·have hi:i=x.aI.length:=by omega
    rw[hi,List.drop_length,aJ.dn,Ef p2.1] at p3;exact int_eq (by omega)
theorem Sd:∀n:Nat,∀x:au,SizeOf.sizeOf x<n->x.sz<=4194304->aG prog 184 [x.v] (.c (.d (.b (gI x)))):=by
 intro n
 induction n with
 |zero=>intro x h;omega
 |succ n ih=>
  intro x hn hsz S;have hb0:=au.bounds hsz;have jl:=au.iy x;have Co:=au.tC x;have he:=tV x;have hv0:=M8;have hop:x.fName∈ops->validName x.fName=false:=PU;refine(show(qh x-> ?T)->_ from fun tail=> ?main) ?tp
  case' main=>
   rcases JR x.aH with hk|hk|hk|hk|hk|hk|hk|hk|hk|hk|hk|hk|hk
   ·have h1:gI x=false:=by rw[he,bJ (fun h=>by have:=h.1;omega)];rfl
    refine zcx [.tmp 2] func184 ntmps184 ?_;simp -implicitDefEqProofs (disch:=omega) only[go_sem];refine ay (Mj _) ?_;simp -implicitDefEqProofs (disch:=omega) only[go_sem];refine ay (Bq _ _ _) ?_;simp -implicitDefEqProofs (disch:=omega) only[go_sem]
    with_reducible refine aA (fun hb=> ?_) (fun hb=> ?_)<;>have h:=hb<;>(try simp only[wf_preprocess] at h)<;>simp -implicitDefEqProofs (disch:=omega) only[go_sem,hb]<;>(repeat(with_reducible refine And.intro ?_ ?_;focus first|omega|rfl|assumption|exact⟨_,rfl,rfl⟩|(simp;omega)|(simp;done)))
    ·rw[h1]
    ·omega
   all_goals
    have hf0:¬qh x->V.c (.d (.b false))=V.c (.d (.b (gI x))):=fun h=>aQ (by rw[he,bJ h];rfl);refine zcx [.tmp 2] func184 ntmps184 ?_;simp -implicitDefEqProofs (disch:=omega) only[go_sem,hk];refine ay (Mj _) ?_;simp -implicitDefEqProofs (disch:=omega) only[go_sem,hk,Wi,Wj,Wl,Wm,Wn,Wo,or_false,or_true,true_or,false_or];refine ay (Bq _ _ _) ?_;simp -implicitDefEqProofs (disch:=omega) only[go_sem,hk]
    repeat' (first
     |with_reducible refine aA (fun hb=> ?_) (fun hb=> ?_)<;>have h:=hb<;>(try simp only[wf_preprocess] at h)<;>simp -implicitDefEqProofs (disch:=omega) only[go_sem,hb,hk]<;>(repeat(with_reducible refine And.intro ?_ ?_;focus first|omega|rfl|assumption|exact⟨_,rfl,rfl⟩|(simp;omega)|(simp;done)))
     |((with_reducible show gB _ _ 52 _ _ _ _);refine ay (jK x.fName (by omega)) ?_;simp -implicitDefEqProofs (disch:=omega) only[go_sem,hk])
     |((with_reducible show gB _ _ 52 _ _ _ _);refine ay (jK x.aZ (by omega)) ?_;simp -implicitDefEqProofs (disch:=omega) only[go_sem,hk])
     |((with_reducible show gB _ _ 211 _ _ _ _);refine ay (Wq x.fName) ?_;simp -implicitDefEqProofs (disch:=omega) only[go_sem,hk])
     |((with_reducible show gB _ _ 87 _ _ _ _);refine ay (Wp x.fType) ?_;simp -implicitDefEqProofs (disch:=omega) only[go_sem,hk])
     |((with_reducible show gB _ _ 119 _ _ _ _);refine ay (sN x.fType (by omega)) ?_;simp -implicitDefEqProofs (disch:=omega) only[go_sem,hk])
     |((with_reducible show gB _ _ 120 _ _ _ _);refine ay (Bq x.fN _ _) ?_;simp -implicitDefEqProofs (disch:=omega) only[go_sem,hk])
     |(refine hf0 fun hF=> ?_;simp only[qh,hk,or_false,or_true,true_or,false_or,and_true,true_and,if_true,if_false,↓reduceIte,Int.reduceEq,Int.reduceLT,Int.reduceLE] at hF;grind [iR,mV,dx,bJ]))
   all_goals
    have hF:qh x:=by simp only[qh,hk,or_false,or_true,true_or,false_or,and_true,true_and,if_true,if_false,↓reduceIte,Int.reduceEq,Int.reduceLT,Int.reduceLE];grind [iR,mV,dx,bJ]
    refine GZ (st':=[.box (x.enc.map .d)]::S) [1,9] [.c (.ptr (0,0) 0),.c (.d (.i .i64 0))] rfl (by simp -implicitDefEqProofs (disch:=omega) only[go_sem,hk]) ?_;exact tail hF
  intro hF;rw[dx hF,Bool.true_and] at he;clear hF hop hv0
  refine bC (ι:=Nat) zmx rfl [1,9] (fun i=>[.c (.ptr (0,0) 0),.c (.d (.i .i64 i))]) (fun _=>[.box (x.enc.map .d)]::S)
   (fun i=>i<=x.fArgs.length/\jo (x.fArgs.drop i)=jo x.fArgs) (fun i=>x.fArgs.length-i) 0 rfl ?_ ⟨Nat.zero_le _,rfl⟩ ?_
  ·simp -implicitDefEqProofs (disch:=omega) only[go_sem]
  rintro i ⟨p1,p2⟩;simp -implicitDefEqProofs (disch:=omega) only[go_sem]
  with_reducible refine aA (fun hb=> ?_) (fun hb=> ?_)<;>have h:=hb<;>(try simp only[wf_preprocess] at h)<;>simp -implicitDefEqProofs (disch:=omega) only[go_sem,hb]<;>(repeat(with_reducible refine And.intro ?_ ?_;focus first|omega|rfl|assumption|exact⟨_,rfl,rfl⟩|(simp;omega)|(simp;done)))
  ·have hi:i<x.fArgs.length:=by omega
   have hs:=List.sizeOf_lt_of_mem (List.getElem_mem hi);rw[PS hi] at p2
   (repeat(with_reducible refine And.intro ?_ ?_;focus first|omega|rfl|assumption|exact⟨_,rfl,rfl⟩|(simp;omega)|(simp;done)))
   refine ay (ih x.fArgs[i] (by omega) (au.arg_b hi hsz)) ?_;simp -implicitDefEqProofs (disch:=omega) only[go_sem]<;>(repeat(with_reducible refine And.intro ?_ ?_;focus first|omega|rfl|assumption|exact⟨_,rfl,rfl⟩|(simp;omega)|(simp;done)))
   with_reducible refine aA (fun hb=> ?_) (fun hb=> ?_)<;>have h:=hb<;>(try simp only[wf_preprocess] at h)<;>simp -implicitDefEqProofs (disch:=omega) only[go_sem,hb]<;>(repeat(with_reducible refine And.intro ?_ ?_;focus first|omega|rfl|assumption|exact⟨_,rfl,rfl⟩|(simp;omega)|(simp;done)))
   ·exact aQ (by rw[he,<-p2,h];rfl)
   ·exact cO (i+1) (by omega) rfl rfl ⟨by omega,by rw[<-p2,h];rfl⟩
  rw[List.drop_of_length_le (by omega)] at p2;have q:jo x.fArgs=true:=p2.symm;clear p2 p1
  refine bC (ι:=Nat) zmx rfl [1,10] (fun i=>[.c (.ptr (0,0) 0),.c (.d (.i .i64 i))]) (fun _=>[.box (x.enc.map .d)]::S)
   (fun i=>i<=x.aI.length/\lG (x.aI.drop i)=lG x.aI) (fun i=>x.aI.length-i) 0 rfl ?_ ⟨Nat.zero_le _,rfl⟩ ?_
  ·simp -implicitDefEqProofs (disch:=omega) only[go_sem]
  rintro i ⟨p1,p2⟩;simp -implicitDefEqProofs (disch:=omega) only[go_sem]
  with_reducible refine aA (fun hb=> ?_) (fun hb=> ?_)<;>have h:=hb<;>(try simp only[wf_preprocess] at h)<;>simp -implicitDefEqProofs (disch:=omega) only[go_sem,hb]<;>(repeat(with_reducible refine And.intro ?_ ?_;focus first|omega|rfl|assumption|exact⟨_,rfl,rfl⟩|(simp;omega)|(simp;done)))
  ·have hi:i<x.aI.length:=by omega
   have hs:=List.sizeOf_lt_of_mem (List.getElem_mem hi);have hs':=aJ.rC x.aI[i];have hab:=aJ.bounds (au.NI hi hsz);rw[R4 hi] at p2;have no:rH x.aI[i]=false->V.c (.d (.b false))=V.c (.d (.b (gI x))):=fun h=>aQ (by rw[he,<-p2,h];simp)
   (repeat(with_reducible refine And.intro ?_ ?_;focus first|omega|rfl|assumption|exact⟨_,rfl,rfl⟩|(simp;omega)|(simp;done)))
   refine ay (jK x.aI[i].bO (by omega)) ?_;simp -implicitDefEqProofs (disch:=omega) only[go_sem]<;>(repeat(with_reducible refine And.intro ?_ ?_;focus first|omega|rfl|assumption|exact⟨_,rfl,rfl⟩|(simp;omega)|(simp;done)))
   with_reducible refine aA (fun hb=> ?_) (fun hb=> ?_)<;>have h:=hb<;>(try simp only[wf_preprocess] at h)<;>simp -implicitDefEqProofs (disch:=omega) only[go_sem,hb]<;>(repeat(with_reducible refine And.intro ?_ ?_;focus first|omega|rfl|assumption|exact⟨_,rfl,rfl⟩|(simp;omega)|(simp;done)))
   ·exact no (by rw[nT,h];rfl)
   have k1:=h
   (repeat(with_reducible refine And.intro ?_ ?_;focus first|omega|rfl|assumption|exact⟨_,rfl,rfl⟩|(simp;omega)|(simp;done)))
   refine ay (Jv x.aI[i].aW (by omega) hab.2.2.1) ?_;simp -implicitDefEqProofs (disch:=omega) only[go_sem]<;>(repeat(with_reducible refine And.intro ?_ ?_;focus first|omega|rfl|assumption|exact⟨_,rfl,rfl⟩|(simp;omega)|(simp;done)))
   with_reducible refine aA (fun hb=> ?_) (fun hb=> ?_)<;>have h:=hb<;>(try simp only[wf_preprocess] at h)<;>simp -implicitDefEqProofs (disch:=omega) only[go_sem,hb]<;>(repeat(with_reducible refine And.intro ?_ ?_;focus first|omega|rfl|assumption|exact⟨_,rfl,rfl⟩|(simp;omega)|(simp;done)))
   ·exact no (by rw[nT];unfold kR;rw[h];simp)
   have k2:=h
   (repeat(with_reducible refine And.intro ?_ ?_;focus first|omega|rfl|assumption|exact⟨_,rfl,rfl⟩|(simp;omega)|(simp;done)))
   refine ay (Af x.aI[i].aW (by omega)) ?_;simp -implicitDefEqProofs (disch:=omega) only[go_sem]<;>(repeat(with_reducible refine And.intro ?_ ?_;focus first|omega|rfl|assumption|exact⟨_,rfl,rfl⟩|(simp;omega)|(simp;done)))
   with_reducible refine aA (fun hb=> ?_) (fun hb=> ?_)<;>have h:=hb<;>(try simp only[wf_preprocess] at h)<;>simp -implicitDefEqProofs (disch:=omega) only[go_sem,hb]<;>(repeat(with_reducible refine And.intro ?_ ?_;focus first|omega|rfl|assumption|exact⟨_,rfl,rfl⟩|(simp;omega)|(simp;done)))
   ·exact no (by rw[nT];unfold kR;rw[bJ h];simp)
   have k3:=h
   (repeat(with_reducible refine And.intro ?_ ?_;focus first|omega|rfl|assumption|exact⟨_,rfl,rfl⟩|(simp;omega)|(simp;done)))
   refine ay (ih x.aI[i].fBody (by omega) hab.2.2.2) ?_;simp -implicitDefEqProofs (disch:=omega) only[go_sem]<;>(repeat(with_reducible refine And.intro ?_ ?_;focus first|omega|rfl|assumption|exact⟨_,rfl,rfl⟩|(simp;omega)|(simp;done)))
   with_reducible refine aA (fun hb=> ?_) (fun hb=> ?_)<;>have h:=hb<;>(try simp only[wf_preprocess] at h)<;>simp -implicitDefEqProofs (disch:=omega) only[go_sem,hb]<;>(repeat(with_reducible refine And.intro ?_ ?_;focus first|omega|rfl|assumption|exact⟨_,rfl,rfl⟩|(simp;omega)|(simp;done)))
   ·exact no (by rw[nT,h];simp)
   ·exact dM 1 (by decide) (i+1) (by omega) rfl rfl rfl rfl ⟨by omega,by rw[<-p2,nT,k1,h];unfold kR;rw[k2,dx k3];rfl⟩
  ·rw[List.drop_of_length_le (by omega)] at p2;exact aQ (by rw[he,q,<-p2];rfl)
theorem Ht(x:au)(hsz:x.sz<=4194304):aG prog 126 [x.v] (.c (.d (.b (nK x)))):=fun S=>by
 have hs:=abV (l:=300) (c:=x.cnt) (by omega);refine zcx [.tmp 2] func126 ntmps126 ?_;simp -implicitDefEqProofs (disch:=omega) only[go_sem];refine ay (Gm _ x (Nat.lt_succ_self _) hsz 300 (by omega) (by omega)) ?_;simp -implicitDefEqProofs (disch:=omega) only[go_sem]<;>(repeat(with_reducible refine And.intro ?_ ?_;focus first|omega|rfl|assumption|exact⟨_,rfl,rfl⟩|(simp;omega)|(simp;done)));rw[hs]
 with_reducible refine aA (fun hb=> ?_) (fun hb=> ?_)<;>have h:=hb<;>(try simp only[wf_preprocess] at h)<;>simp -implicitDefEqProofs (disch:=omega) only[go_sem,hb]<;>(repeat(with_reducible refine And.intro ?_ ?_;focus first|omega|rfl|assumption|exact⟨_,rfl,rfl⟩|(simp;omega)|(simp;done)))
 ·refine ay (Sd _ x (Nat.lt_succ_self _) hsz) ?_;simp -implicitDefEqProofs (disch:=omega) only[go_sem]<;>(repeat(with_reducible refine And.intro ?_ ?_;focus first|omega|rfl|assumption|exact⟨_,rfl,rfl⟩|(simp;omega)|(simp;done)));exact aQ (by unfold nK;rw[dx (by omega)];rfl)
 ·exact aQ (by unfold nK;rw[bJ (by omega)];rfl)
end Go.Ab